/- Steps of the proofs over the functions of this seat, printed by a program (gen.py) and checked by Lean. -/
import Derived.Test.YtcccaihjgoaehaaDoorW01
import Derived.Test.YtcccaihjgoaehaaDoorW00
import Derived.Test.YtcccaihjgoaehaaDoorW07
set_option linter.unusedVariables false
set_option linter.unusedSimpArgs false
namespace Go.Proofs.YtcccaihjgoaehaaDoor
open Go Go.FM Go.Proofs
attribute [local irreducible] wpList wpQuiet wpS Code.wp Calls
set_option maxHeartbeats 8000000 in
theorem tick_S {H:Hp} {w:World} {L:List Res} {g_m m_n m_self m_high:Nat} {m_cur:GView} {m_prom:GViewID} {m_jl:List GState} {m_os:List (GViewID × GViewID)} {A_m:Option Addr} {jn_m jc_m:Nat} {gp_m:Nat} {p_m:GProp} {sv_m:Value} {sc_m:List Value} (hs:St H w (obj g_m 78 ((.int .i64 ((m_n:Nat):Int))::(.int .i64 ((m_self:Nat):Int))::(.int .u64 ((m_cur.ID.N:Nat):Int))::(.int .i64 m_cur.ID.P)::(.int .u16 ((m_cur.Set:Nat):Int))::(.int .u64 ((m_prom.N:Nat):Int))::(.int .i64 m_prom.P)::(.int .u64 ((m_high:Nat):Int))::(.pointer (some ⟨gp_m,0,none⟩))::(.slice A_m jn_m jc_m)::oCells m_os)::obj gp_m 81 (clProp p_m sv_m)::row 37 4 sv_m p_m.states.length sc_m::L)) (ok_m:MemB H m_n m_self m_cur m_prom m_high A_m jn_m jc_m m_jl m_os) (hk_m:PropOk H p_m sv_m sc_m) (est:Nat) (b_est:est < 65536) (sx:GState) {k_sx:List Value} (h_sx:kState.rep H sx k_sx) (hfl:0 ≤ sx.Floor∧sx.Floor ≤ 1073741824) (htab:Tab H):Calls Tryd.prog 12 #[.pointer (some ⟨g_m,0,none⟩),.int .u16 ((est:Nat):Int),.agg k_sx.toArray] w (fun e w' => ∃ (H':Hp) (v0:Value) (cs0:List Value) (iv1:Value) (m':MB) (gp_m':Nat) (A_m':Option Addr) (jn_m' jc_m':Nat) (sv_m':Value) (sc_m':List Value),H.le H'∧e = .returned (.tuple #[v0,iv1])∧RowOk kOut.sz v0 ((MB.tick (MB.mk m_n m_self m_cur m_prom m_high (some p_m) m_jl m_os) est sx).2.1).length cs0∧kOut.toKn.rows H' ((MB.tick (MB.mk m_n m_self m_cur m_prom m_high (some p_m) m_jl m_os) est sx).2.1) cs0∧InstAt H' ((MB.tick (MB.mk m_n m_self m_cur m_prom m_high (some p_m) m_jl m_os) est sx).2.2) iv1∧MemOk H' m' A_m' jn_m' jc_m' sv_m' sc_m'∧m' = (MB.tick (MB.mk m_n m_self m_cur m_prom m_high (some p_m) m_jl m_os) est sx).1∧St H' w' (row 53 kOut.sz v0 ((MB.tick (MB.mk m_n m_self m_cur m_prom m_high (some p_m) m_jl m_os) est sx).2.1).length cs0::memR 78 81 37 g_m gp_m' A_m' jn_m' jc_m' sv_m' sc_m' m' ++ (L))):=by
 have hn1_m:1 ≤ m_n:=ok_m.n1
 have hn16_m:m_n ≤ 16:=ok_m.n16
 have hsf_m:m_self < m_n:=ok_m.self
 have hol_m:m_os.length = 16:=ok_m.len
 have hhi_m:m_high < 18446744073709551616:=ok_m.high
 obtain ⟨A6,n7,c8,rfl,b1,⟨b2,b3⟩,⟨b4,b5⟩,hl9⟩:=h_sx
 have:=hl9.len; have:n7 * 32 ≤ 140737488351232:=hl9.bnd; have:=hl9.le
 refine enter (args:=[.pointer (some ⟨g_m,0,none⟩),.int .u16 ((est:Nat):Int),.agg #[.int .u64 ((sx.V.N:Nat):Int),.int .i64 sx.V.P,.int .i64 sx.Floor,.slice A6 n7 c8]]) (N:=168) Tryd.func12 rfl rfl rfl ?_
 refine c_seq (c_region (st_m (m_box (cs:=[.int .u64 ((sx.V.N:Nat):Int),.int .i64 sx.V.P,.int .i64 sx.Floor,.slice A6 n7 c8]) hs (v:=.agg #[.int .u64 ((sx.V.N:Nat):Int),.int .i64 sx.V.P,.int .i64 sx.Floor,.slice A6 n7 c8]) (.tmp rfl rfl) rfl) ?_))
 rintro _ w11 ⟨g10,rfl,hs13⟩
 refine st (v:=.slice none 0 0) (x_assign .const) ?_
 refine st (v:=.pointer none) (x_assign .const) ?_
 refine c_nil (n_then (c_seq (c_seq (c_region (st (v:=.pointer (some ⟨g_m,0,none⟩)) (x_move (.tmp rfl rfl)) ?_)))))
 refine st (v:=.bool false) (x_eqlP Tryd.underlying23 (.tmp rfl rfl) .const rfl) ?_
 refine c_nil (n_then (c_cond_f (t:=false) (.tmp rfl rfl) rfl ?_))
 refine c_skip (n_then (c_seq (q_region mixed hs13 (by kernel_rfl) ?_)))
 refine q_st (v:=.int .u16 ((est:Nat):Int)) (fun w hs => (x_move (.tmp rfl rfl))) ?_
 refine q_st (v:=.pointer (some ⟨g_m,0,none⟩)) (fun w hs => (x_move (.tmp rfl rfl))) ?_
 refine q_st (v:=.pointer (some ⟨g_m,0,none⟩)) (fun w hs => (x_nilCheck (.tmp rfl rfl))) ?_
 refine q_st (v:=.pointer (some ⟨g_m,0 + 0,none⟩)) (fun w hs => (fa78_0 (.tmp rfl rfl))) ?_
 refine q_st (v:=.int .i64 ((m_n:Nat):Int)) (fun w hs => (ld3 (.tmp rfl rfl) (hs.cell 1 rfl (0 + 0) rfl))) ?_
 have hb14:(1 * 2 ^ m_n % 65536) < 65536:=Nat.mod_lt _ (by decide)
 refine q_st (v:=.int .u16 (((1 * 2 ^ m_n % 65536):Nat):Int)) (fun w hs => (x_shl (k:=.u16) (m:=1) (b:=((m_n:Nat):Int)) rfl .const (.tmp rfl rfl) (by omega))) ?_
 have hal:=all_sub (k:=m_n) (by omega) (by omega)
 refine q_st (v:=.int .u16 (((2 ^ m_n - 1):Nat):Int)) (fun w hs => (x_sub (k:=.u16) (a:=(((1 * 2 ^ m_n % 65536):Nat):Int)) (b:=1) (.tmp rfl rfl) .const ((wrapU _ rfl _).trans (by rw [show (2 ^ IntKind.u16.bits:Int) = 65536 from rfl,hal.1]; rfl)))) ?_
 have hb15:(est &&& (2 ^ m_n - 1)) < 65536:=Nat.lt_of_le_of_lt Nat.and_le_left b_est
 refine q_st (v:=.int .u16 (((est &&& (2 ^ m_n - 1)):Nat):Int)) (fun w hs => (x_and (k:=.u16) (m:=est) (n:=(2 ^ m_n - 1)) rfl (.tmp rfl rfl) (.tmp rfl rfl) (show _ < 2 ^ 16 from b_est) (show _ < 2 ^ 16 from hal.2))) ?_
 refine q_st (v:=.pointer (some ⟨g_m,0,none⟩)) (fun w hs => (x_move (.tmp rfl rfl))) ?_
 refine q_st (v:=.pointer (some ⟨g_m,0,none⟩)) (fun w hs => (x_nilCheck (.tmp rfl rfl))) ?_
 refine q_st (v:=.pointer (some ⟨g_m,0 + 1,none⟩)) (fun w hs => (fa78_1 (.tmp rfl rfl))) ?_
 refine q_st (v:=.int .i64 ((m_self:Nat):Int)) (fun w hs => (ld3 (.tmp rfl rfl) (hs.cell 1 rfl (0 + 1) rfl))) ?_
 refine q_c (v:=.int .u16 (((wth (est &&& (2 ^ m_n - 1)) ((m_self:Nat):Int)):Nat):Int)) cb24 .func (evs2 (.tmp rfl rfl) (.tmp rfl rfl)) (fun w hs => with_spec hs (est &&& (2 ^ m_n - 1)) ((m_self:Nat):Int) hb15 (by omega)) ?_
 refine q_st (v:=.int .u16 (((wth (est &&& (2 ^ m_n - 1)) ((m_self:Nat):Int)):Nat):Int)) (fun w hs => (x_assign (.tmp rfl rfl))) ?_
 refine q_nil ?_
 intro w hs16
 refine n_then (c_seq (c_region (st (v:=.pointer (some ⟨g_m,0,none⟩)) (x_move (.tmp rfl rfl)) ?_)))
 refine st (v:=.pointer (some ⟨g_m,0,none⟩)) (x_nilCheck (.tmp rfl rfl)) ?_
 refine st (v:=.pointer (some ⟨g_m,0 + 8,none⟩)) (fa78_5 (.tmp rfl rfl)) ?_
 refine st (v:=.pointer (some ⟨gp_m,0,none⟩)) (ld75 (.tmp rfl rfl) (hs16.cell 1 rfl (0 + 8) rfl)) ?_
 refine st (v:=.pointer (some ⟨gp_m,0,none⟩)) (x_assign (.tmp rfl rfl)) ?_
 refine c_nil (n_then (c_seq (q_region mixed hs16 (by kernel_rfl) ?_)))
 refine q_st (v:=.pointer (some ⟨g_m,0,none⟩)) (fun w hs => (x_move (.tmp rfl rfl))) ?_
 refine q_st (v:=.pointer (some ⟨g_m,0,none⟩)) (fun w hs => (x_nilCheck (.tmp rfl rfl))) ?_
 refine q_st (v:=.pointer (some ⟨g_m,0 + 2,none⟩)) (fun w hs => (fa78_2 (.tmp rfl rfl))) ?_
 refine q_st (v:=.pointer (some ⟨g_m,0 + 2 + 0,none⟩)) (fun w hs => (fa39_0 (.tmp rfl rfl))) ?_
 refine q_st (v:=.agg #[.int .u64 ((m_cur.ID.N:Nat):Int),.int .i64 m_cur.ID.P]) (fun w hs => (ld34 (cs:=[.int .u64 ((m_cur.ID.N:Nat):Int),.int .i64 m_cur.ID.P]) (.tmp rfl rfl) (hs.at_ 1 rfl (0 + 2 + 0) rfl) rfl)) ?_
 refine q_st (v:=.pointer (some ⟨g_m,0,none⟩)) (fun w hs => (x_move (.tmp rfl rfl))) ?_
 refine q_st (v:=.pointer (some ⟨g_m,0,none⟩)) (fun w hs => (x_nilCheck (.tmp rfl rfl))) ?_
 refine q_st (v:=.pointer (some ⟨g_m,0 + 5,none⟩)) (fun w hs => (fa78_3 (.tmp rfl rfl))) ?_
 refine q_st (v:=.agg #[.int .u64 ((m_prom.N:Nat):Int),.int .i64 m_prom.P]) (fun w hs => (ld34 (cs:=[.int .u64 ((m_prom.N:Nat):Int),.int .i64 m_prom.P]) (.tmp rfl rfl) (hs.at_ 1 rfl (0 + 5) rfl) rfl)) ?_
 refine q_st (v:=.bool (!((((m_cur.ID.N:Nat):Int) == ((m_prom.N:Nat):Int)) && ((m_cur.ID.P == m_prom.P) && true)))) (fun w hs => (x_neqA eqg34 (.tmp rfl rfl) (.tmp rfl rfl) (fun d => eqs34 (d + 98) _ ((m_cur.ID.N:Nat):Int) ((m_prom.N:Nat):Int) m_cur.ID.P m_prom.P))) ?_
 refine q_st (v:=.bool (!(decide (m_cur.ID = m_prom)))) (fun w hs => (x_move (.tmp rfl (congrArg (fun z => Value.bool (!z)) (GViewID.beq_dec m_cur.ID m_prom))))) ?_
 refine jq 8 (fun ρ => ρ 50 = .bool ((!(decide (m_cur.ID = m_prom))) || (decide ((((m_cur.ID.N:Nat):Int):Int) = 0)))∧ρ 0 = .pointer (some ⟨g_m,0,none⟩)∧ρ 1 = .int .u16 (((wth (est &&& (2 ^ m_n - 1)) ((m_self:Nat):Int)):Nat):Int)∧ρ 5 = .pointer (some ⟨g10,0,none⟩)∧ρ 8 = .pointer (some ⟨gp_m,0,none⟩)∧True) ?_ ?_
 rcases Bool.eq_false_or_eq_true (decide (m_cur.ID = m_prom)) with hc17 | hc17
 have hp17:m_cur.ID = m_prom:=of_decide_eq_true hc17
 refine q_yes (yl (dj:=42) (b:=false) rfl rfl (cVb (by rw [hc17]; rfl))) ?_
 refine q_st (v:=.pointer (some ⟨g_m,0,none⟩)) (fun w hs => (x_move (.tmp rfl rfl))) ?_
 refine q_yes (yl (dj:=42) (b:=false) rfl rfl (cVb (by rw [hc17]; rfl))) ?_
 refine q_st (v:=.pointer (some ⟨g_m,0,none⟩)) (fun w hs => (x_nilCheck (.tmp rfl rfl))) ?_
 refine q_yes (yl (dj:=42) (b:=false) rfl rfl (cVb (by rw [hc17]; rfl))) ?_
 refine q_st (v:=.pointer (some ⟨g_m,0 + 2,none⟩)) (fun w hs => (fa78_2 (.tmp rfl rfl))) ?_
 refine q_yes (yl (dj:=42) (b:=false) rfl rfl (cVb (by rw [hc17]; rfl))) ?_
 refine q_st (v:=.pointer (some ⟨g_m,0 + 2 + 0,none⟩)) (fun w hs => (fa39_0 (.tmp rfl rfl))) ?_
 refine q_yes (yl (dj:=42) (b:=false) rfl rfl (cVb (by rw [hc17]; rfl))) ?_
 refine q_st (v:=.pointer (some ⟨g_m,0 + 2 + 0 + 0,none⟩)) (fun w hs => (fa34_0 (.tmp rfl rfl))) ?_
 refine q_yes (yl (dj:=42) (b:=false) rfl rfl (cVb (by rw [hc17]; rfl))) ?_
 refine q_st (v:=.int .u64 ((m_cur.ID.N:Nat):Int)) (fun w hs => (ld32 (.tmp rfl rfl) (hs.cell 1 rfl (0 + 2 + 0 + 0) rfl))) ?_
 refine q_yes (yl (dj:=42) (b:=false) rfl rfl (cVb (by rw [hc17]; rfl))) ?_
 refine q_st (v:=.bool (decide ((((m_cur.ID.N:Nat):Int):Int) = 0))) (fun w hs => (x_eql (k:=.u64) (a:=((m_cur.ID.N:Nat):Int)) (b:=0) (.tmp rfl rfl) .const)) ?_
 refine q_st (v:=.bool (decide ((((m_cur.ID.N:Nat):Int):Int) = 0))) (fun w hs => (x_pick_f (.tmp rfl (cVb (by rw [hc17]; rfl))) (.tmp rfl rfl))) ?_
 exact jq_end ⟨(cVb (jor_f (by rw [hc17]; rfl))),rfl,rfl,rfl,rfl,True.intro⟩
 have hp17:¬ (m_cur.ID = m_prom):=of_decide_eq_false hc17
 refine q_no (yl (dj:=42) (b:=true) rfl rfl (cVb (by rw [hc17]; rfl))) rfl ?_
 refine q_no (yl (dj:=42) (b:=true) rfl rfl (cVb (by rw [hc17]; rfl))) rfl ?_
 refine q_no (yl (dj:=42) (b:=true) rfl rfl (cVb (by rw [hc17]; rfl))) rfl ?_
 refine q_no (yl (dj:=42) (b:=true) rfl rfl (cVb (by rw [hc17]; rfl))) rfl ?_
 refine q_no (yl (dj:=42) (b:=true) rfl rfl (cVb (by rw [hc17]; rfl))) rfl ?_
 refine q_no (yl (dj:=42) (b:=true) rfl rfl (cVb (by rw [hc17]; rfl))) rfl ?_
 refine q_no (yl (dj:=42) (b:=true) rfl rfl (cVb (by rw [hc17]; rfl))) rfl ?_
 refine q_st (v:=.bool true) (fun w hs => (x_pick_t (.tmp rfl (cVb (by rw [hc17]; rfl))) .const)) ?_
 exact jq_end ⟨(cVb (jor_t (by rw [hc17]; rfl))),rfl,rfl,rfl,rfl,True.intro⟩
 rintro ρ ⟨hρ18,hρ19,hρ20,hρ21,hρ22,_⟩
 refine q_st (v:=.bool ((!(decide (m_cur.ID = m_prom))) || (decide ((((m_cur.ID.N:Nat):Int):Int) = 0)))) (fun w hs => (x_move (.tmp rfl hρ18))) ?_
 refine jq 8 (fun ρ => ρ 59 = .bool (((!(decide (m_cur.ID = m_prom))) || (decide ((((m_cur.ID.N:Nat):Int):Int) = 0))) || (decide (((((wth (est &&& (2 ^ m_n - 1)) ((m_self:Nat):Int)):Nat):Int):Int) ≠ ((m_cur.Set:Nat):Int))))∧ρ 0 = .pointer (some ⟨g_m,0,none⟩)∧ρ 1 = .int .u16 (((wth (est &&& (2 ^ m_n - 1)) ((m_self:Nat):Int)):Nat):Int)∧ρ 5 = .pointer (some ⟨g10,0,none⟩)∧ρ 8 = .pointer (some ⟨gp_m,0,none⟩)∧True) ?_ ?_
 rcases Bool.eq_false_or_eq_true ((!(decide (m_cur.ID = m_prom))) || (decide ((((m_cur.ID.N:Nat):Int):Int) = 0))) with hc24 | hc24
 have hp24:(¬ (m_cur.ID = m_prom)) ∨ ((((m_cur.ID.N:Nat):Int):Int) = 0):=((J_or (J_not decide_eq_true_iff) decide_eq_true_iff)).1 hc24
 refine q_no (yk 51 true rfl rfl hc24) rfl ?_
 refine q_no (yk 51 true rfl rfl hc24) rfl ?_
 refine q_no (yk 51 true rfl rfl hc24) rfl ?_
 refine q_no (yk 51 true rfl rfl hc24) rfl ?_
 refine q_no (yk 51 true rfl rfl hc24) rfl ?_
 refine q_no (yk 51 true rfl rfl hc24) rfl ?_
 refine q_no (yk 51 true rfl rfl hc24) rfl ?_
 refine q_st (v:=.bool true) (fun w hs => (x_pick_t (.tmp rfl (cVb hc24)) .const)) ?_
 exact jq_end ⟨(cVb (jor_t hc24)),hρ19,hρ20,hρ21,hρ22,True.intro⟩
 have hp24:¬ ((¬ (m_cur.ID = m_prom)) ∨ ((((m_cur.ID.N:Nat):Int):Int) = 0)):=J_no (J_or (J_not decide_eq_true_iff) decide_eq_true_iff) hc24
 refine q_yes (yk 51 false rfl rfl hc24) ?_
 refine q_st (v:=.int .u16 (((wth (est &&& (2 ^ m_n - 1)) ((m_self:Nat):Int)):Nat):Int)) (fun w hs => (x_move (.tmp rfl hρ20))) ?_
 refine q_yes (yk 51 false rfl rfl hc24) ?_
 refine q_st (v:=.pointer (some ⟨g_m,0,none⟩)) (fun w hs => (x_move (.tmp rfl hρ19))) ?_
 refine q_yes (yk 51 false rfl rfl hc24) ?_
 refine q_st (v:=.pointer (some ⟨g_m,0,none⟩)) (fun w hs => (x_nilCheck (.tmp rfl rfl))) ?_
 refine q_yes (yk 51 false rfl rfl hc24) ?_
 refine q_st (v:=.pointer (some ⟨g_m,0 + 2,none⟩)) (fun w hs => (fa78_2 (.tmp rfl rfl))) ?_
 refine q_yes (yk 51 false rfl rfl hc24) ?_
 refine q_st (v:=.pointer (some ⟨g_m,0 + 2 + 2,none⟩)) (fun w hs => (fa39_1 (.tmp rfl rfl))) ?_
 refine q_yes (yk 51 false rfl rfl hc24) ?_
 refine q_st (v:=.int .u16 ((m_cur.Set:Nat):Int)) (fun w hs => (ld31 (.tmp rfl rfl) (hs.cell 1 rfl (0 + 2 + 2) rfl))) ?_
 refine q_yes (yk 51 false rfl rfl hc24) ?_
 refine q_st (v:=.bool (decide (((((wth (est &&& (2 ^ m_n - 1)) ((m_self:Nat):Int)):Nat):Int):Int) ≠ ((m_cur.Set:Nat):Int)))) (fun w hs => (x_neq (k:=.u16) (a:=(((wth (est &&& (2 ^ m_n - 1)) ((m_self:Nat):Int)):Nat):Int)) (b:=((m_cur.Set:Nat):Int)) (.tmp rfl rfl) (.tmp rfl rfl))) ?_
 refine q_st (v:=.bool (decide (((((wth (est &&& (2 ^ m_n - 1)) ((m_self:Nat):Int)):Nat):Int):Int) ≠ ((m_cur.Set:Nat):Int)))) (fun w hs => (x_pick_f (.tmp rfl (cVb hc24)) (.tmp rfl rfl))) ?_
 exact jq_end ⟨(cVb (jor_f hc24)),hρ19,hρ20,hρ21,hρ22,True.intro⟩
 rintro ρ ⟨hρ25,hρ26,hρ27,hρ28,hρ29,_⟩
 refine q_st (v:=.bool (((!(decide (m_cur.ID = m_prom))) || (decide ((((m_cur.ID.N:Nat):Int):Int) = 0))) || (decide (((((wth (est &&& (2 ^ m_n - 1)) ((m_self:Nat):Int)):Nat):Int):Int) ≠ ((m_cur.Set:Nat):Int))))) (fun w hs => (x_move (.tmp rfl hρ25))) ?_
 refine jq 9 (fun ρ => ρ 69 = .bool ((((!(decide (m_cur.ID = m_prom))) || (decide ((((m_cur.ID.N:Nat):Int):Int) = 0))) || (decide (((((wth (est &&& (2 ^ m_n - 1)) ((m_self:Nat):Int)):Nat):Int):Int) ≠ ((m_cur.Set:Nat):Int)))) || (MB.ahead (MB.mk m_n m_self m_cur m_prom m_high (some p_m) m_jl m_os) (wth (est &&& (2 ^ m_n - 1)) ((m_self:Nat):Int)) m_cur.ID))∧ρ 0 = .pointer (some ⟨g_m,0,none⟩)∧ρ 1 = .int .u16 (((wth (est &&& (2 ^ m_n - 1)) ((m_self:Nat):Int)):Nat):Int)∧ρ 5 = .pointer (some ⟨g10,0,none⟩)∧ρ 8 = .pointer (some ⟨gp_m,0,none⟩)∧True) ?_ ?_
 rcases Bool.eq_false_or_eq_true (((!(decide (m_cur.ID = m_prom))) || (decide ((((m_cur.ID.N:Nat):Int):Int) = 0))) || (decide (((((wth (est &&& (2 ^ m_n - 1)) ((m_self:Nat):Int)):Nat):Int):Int) ≠ ((m_cur.Set:Nat):Int)))) with hc31 | hc31
 have hp31:((¬ (m_cur.ID = m_prom)) ∨ ((((m_cur.ID.N:Nat):Int):Int) = 0)) ∨ (((((wth (est &&& (2 ^ m_n - 1)) ((m_self:Nat):Int)):Nat):Int):Int) ≠ ((m_cur.Set:Nat):Int)):=((J_or (J_or (J_not decide_eq_true_iff) decide_eq_true_iff) decide_eq_true_iff)).1 hc31
 refine q_no (yk 60 true rfl rfl hc31) rfl ?_
 refine q_no (yk 60 true rfl rfl hc31) rfl ?_
 refine q_no (yk 60 true rfl rfl hc31) rfl ?_
 refine q_no (yk 60 true rfl rfl hc31) rfl ?_
 refine q_no (yk 60 true rfl rfl hc31) rfl ?_
 refine q_no (yk 60 true rfl rfl hc31) rfl ?_
 refine q_no (yk 60 true rfl rfl hc31) rfl ?_
 refine q_no (yk 60 true rfl rfl hc31) rfl ?_
 refine q_st (v:=.bool true) (fun w hs => (x_pick_t (.tmp rfl (cVb hc31)) .const)) ?_
 exact jq_end ⟨(cVb (jor_t hc31)),hρ26,hρ27,hρ28,hρ29,True.intro⟩
 have hp31:¬ (((¬ (m_cur.ID = m_prom)) ∨ ((((m_cur.ID.N:Nat):Int):Int) = 0)) ∨ (((((wth (est &&& (2 ^ m_n - 1)) ((m_self:Nat):Int)):Nat):Int):Int) ≠ ((m_cur.Set:Nat):Int))):=J_no (J_or (J_or (J_not decide_eq_true_iff) decide_eq_true_iff) decide_eq_true_iff) hc31
 refine q_yes (yk 60 false rfl rfl hc31) ?_
 refine q_st (v:=.pointer (some ⟨g_m,0,none⟩)) (fun w hs => (x_move (.tmp rfl hρ26))) ?_
 refine q_yes (yk 60 false rfl rfl hc31) ?_
 refine q_st (v:=.int .u16 (((wth (est &&& (2 ^ m_n - 1)) ((m_self:Nat):Int)):Nat):Int)) (fun w hs => (x_move (.tmp rfl hρ27))) ?_
 refine q_yes (yk 60 false rfl rfl hc31) ?_
 refine q_st (v:=.pointer (some ⟨g_m,0,none⟩)) (fun w hs => (x_move (.tmp rfl hρ26))) ?_
 refine q_yes (yk 60 false rfl rfl hc31) ?_
 refine q_st (v:=.pointer (some ⟨g_m,0,none⟩)) (fun w hs => (x_nilCheck (.tmp rfl rfl))) ?_
 refine q_yes (yk 60 false rfl rfl hc31) ?_
 refine q_st (v:=.pointer (some ⟨g_m,0 + 2,none⟩)) (fun w hs => (fa78_2 (.tmp rfl rfl))) ?_
 refine q_yes (yk 60 false rfl rfl hc31) ?_
 refine q_st (v:=.pointer (some ⟨g_m,0 + 2 + 0,none⟩)) (fun w hs => (fa39_0 (.tmp rfl rfl))) ?_
 refine q_yes (yk 60 false rfl rfl hc31) ?_
 refine q_st (v:=.agg #[.int .u64 ((m_cur.ID.N:Nat):Int),.int .i64 m_cur.ID.P]) (fun w hs => (ld34 (cs:=[.int .u64 ((m_cur.ID.N:Nat):Int),.int .i64 m_cur.ID.P]) (.tmp rfl rfl) (hs.at_ 1 rfl (0 + 2 + 0) rfl) rfl)) ?_
 refine q_yes (yk 60 false rfl rfl hc31) ?_
 have okm32:MemB H m_n m_self m_cur m_prom m_high A_m jn_m jc_m m_jl m_os:=⟨hn1_m,hn16_m,hsf_m,⟨ok_m.cur.n,ok_m.cur.p⟩,ok_m.set,⟨ok_m.prom.n,ok_m.prom.p⟩,ok_m.high,ok_m.joined,ok_m.len,ok_m.oth⟩
 refine q_c (v:=.bool (MB.ahead (MB.mk m_n m_self m_cur m_prom m_high (some p_m) m_jl m_os) (wth (est &&& (2 ^ m_n - 1)) ((m_self:Nat):Int)) m_cur.ID)) cb25 .func (evs3 (.tmp rfl rfl) (.tmp rfl rfl) (.tmp rfl rfl)) (fun w hs => calls_back (ahead_X (hs.p1) (m_prop:=(some p_m)) (m_n:=m_n) (m_self:=m_self) (m_cur:=m_cur) (m_prom:=m_prom) (m_high:=m_high) (m_jl:=m_jl) (m_os:=m_os) okm32 (wth (est &&& (2 ^ m_n - 1)) ((m_self:Nat):Int)) (wth_lt hb15 ((m_self:Nat):Int)) m_cur.ID (k_v:=[.int .u64 ((m_cur.ID.N:Nat):Int),.int .i64 m_cur.ID.P]) ⟨rfl,ok_m.cur.n,ok_m.cur.p⟩ htab) (fun w h => h.unpick 1 rfl rfl)) ?_
 refine q_st (v:=.bool (MB.ahead (MB.mk m_n m_self m_cur m_prom m_high (some p_m) m_jl m_os) (wth (est &&& (2 ^ m_n - 1)) ((m_self:Nat):Int)) m_cur.ID)) (fun w hs => (x_pick_f (.tmp rfl (cVb hc31)) (.tmp rfl rfl))) ?_
 exact jq_end ⟨(cVb (jor_f hc31)),hρ26,hρ27,hρ28,hρ29,True.intro⟩
 rintro ρ ⟨hρ34,hρ35,hρ36,hρ37,hρ38,_⟩
 refine q_st (v:=.bool ((((!(decide (m_cur.ID = m_prom))) || (decide ((((m_cur.ID.N:Nat):Int):Int) = 0))) || (decide (((((wth (est &&& (2 ^ m_n - 1)) ((m_self:Nat):Int)):Nat):Int):Int) ≠ ((m_cur.Set:Nat):Int)))) || (MB.ahead (MB.mk m_n m_self m_cur m_prom m_high (some p_m) m_jl m_os) (wth (est &&& (2 ^ m_n - 1)) ((m_self:Nat):Int)) m_cur.ID))) (fun w hs => (x_assign (.tmp rfl hρ34))) ?_
 refine q_nil ?_
 intro w hs40
 refine n_then (c_seq (q_region mixed hs40 (by kernel_rfl) ?_))
 have hnd:((((!(decide (m_cur.ID = m_prom))) || (decide ((((m_cur.ID.N:Nat):Int):Int) = 0))) || (decide (((((wth (est &&& (2 ^ m_n - 1)) ((m_self:Nat):Int)):Nat):Int):Int) ≠ ((m_cur.Set:Nat):Int)))) || (MB.ahead (MB.mk m_n m_self m_cur m_prom m_high (some p_m) m_jl m_os) (wth (est &&& (2 ^ m_n - 1)) ((m_self:Nat):Int)) m_cur.ID)) = (MB.need (MB.mk m_n m_self m_cur m_prom m_high (some p_m) m_jl m_os) (wth (est &&& (2 ^ m_n - 1)) ((m_self:Nat):Int))):=need_is (m:=(MB.mk m_n m_self m_cur m_prom m_high (some p_m) m_jl m_os))
 skip
 refine q_st (v:=.pointer (some ⟨gp_m,0,none⟩)) (fun w hs => (x_move (.tmp rfl hρ38))) ?_
 refine q_st (v:=.bool true) (fun w hs => (x_neqP Tryd.underlying75 (.tmp rfl rfl) .const rfl)) ?_
 refine q_st (v:=.bool true) (fun w hs => (x_move (.tmp rfl rfl))) ?_
 refine q_yes (yl (dj:=72) (b:=true) rfl rfl rfl) ?_
 refine q_st (v:=.pointer (some ⟨gp_m,0,none⟩)) (fun w hs => (x_move (.tmp rfl hρ38))) ?_
 refine q_yes (yl (dj:=72) (b:=true) rfl rfl rfl) ?_
 refine q_st (v:=.pointer (some ⟨gp_m,0,none⟩)) (fun w hs => (x_nilCheck (.tmp rfl rfl))) ?_
 refine q_yes (yl (dj:=72) (b:=true) rfl rfl rfl) ?_
 refine q_st (v:=.pointer (some ⟨gp_m,0 + 5,none⟩)) (fun w hs => (fa81_3 (.tmp rfl rfl))) ?_
 refine q_yes (yl (dj:=72) (b:=true) rfl rfl rfl) ?_
 refine q_st (v:=.bool p_m.done) (fun w hs => (ld4 (.tmp rfl rfl) (hs.cell 2 rfl (0 + 5) rfl))) ?_
 refine q_yes (yl (dj:=72) (b:=true) rfl rfl rfl) ?_
 refine q_st (v:=.bool (!p_m.done)) (fun w hs => (x_not (.tmp rfl rfl))) ?_
 refine q_st (v:=.bool (!p_m.done)) (fun w hs => (x_pick_t (.tmp rfl rfl) (.tmp rfl rfl))) ?_
 refine q_st (v:=.bool (!p_m.done)) (fun w hs => (x_move (.tmp rfl rfl))) ?_
 refine jq 11 (fun ρ => ρ 90 = .bool ((!p_m.done) && (decide (m_prom = p_m.v.ID)))∧ρ 0 = .pointer (some ⟨g_m,0,none⟩)∧ρ 1 = .int .u16 (((wth (est &&& (2 ^ m_n - 1)) ((m_self:Nat):Int)):Nat):Int)∧ρ 5 = .pointer (some ⟨g10,0,none⟩)∧ρ 8 = .pointer (some ⟨gp_m,0,none⟩)∧ρ 9 = .bool (MB.need (MB.mk m_n m_self m_cur m_prom m_high (some p_m) m_jl m_os) (wth (est &&& (2 ^ m_n - 1)) ((m_self:Nat):Int)))∧True) ?_ ?_
 rcases Bool.eq_false_or_eq_true p_m.done with hc41 | hc41
 refine q_no (yl (dj:=79) (b:=false) rfl rfl (cVb (by rw [hc41]; rfl))) rfl ?_
 refine q_no (yl (dj:=79) (b:=false) rfl rfl (cVb (by rw [hc41]; rfl))) rfl ?_
 refine q_no (yl (dj:=79) (b:=false) rfl rfl (cVb (by rw [hc41]; rfl))) rfl ?_
 refine q_no (yl (dj:=79) (b:=false) rfl rfl (cVb (by rw [hc41]; rfl))) rfl ?_
 refine q_no (yl (dj:=79) (b:=false) rfl rfl (cVb (by rw [hc41]; rfl))) rfl ?_
 refine q_no (yl (dj:=79) (b:=false) rfl rfl (cVb (by rw [hc41]; rfl))) rfl ?_
 refine q_no (yl (dj:=79) (b:=false) rfl rfl (cVb (by rw [hc41]; rfl))) rfl ?_
 refine q_no (yl (dj:=79) (b:=false) rfl rfl (cVb (by rw [hc41]; rfl))) rfl ?_
 refine q_no (yl (dj:=79) (b:=false) rfl rfl (cVb (by rw [hc41]; rfl))) rfl ?_
 refine q_no (yl (dj:=79) (b:=false) rfl rfl (cVb (by rw [hc41]; rfl))) rfl ?_
 refine q_st (v:=.bool false) (fun w hs => (x_pick_f (.tmp rfl (cVb (by rw [hc41]; rfl))) .const)) ?_
 exact jq_end ⟨(cVb (jand_f (by rw [hc41]; rfl))),hρ35,hρ36,hρ37,hρ38,(cVb hnd),True.intro⟩
 refine q_yes (yl (dj:=79) (b:=true) rfl rfl (cVb (by rw [hc41]; rfl))) ?_
 refine q_st (v:=.pointer (some ⟨g_m,0,none⟩)) (fun w hs => (x_move (.tmp rfl hρ35))) ?_
 refine q_yes (yl (dj:=79) (b:=true) rfl rfl (cVb (by rw [hc41]; rfl))) ?_
 refine q_st (v:=.pointer (some ⟨g_m,0,none⟩)) (fun w hs => (x_nilCheck (.tmp rfl rfl))) ?_
 refine q_yes (yl (dj:=79) (b:=true) rfl rfl (cVb (by rw [hc41]; rfl))) ?_
 refine q_st (v:=.pointer (some ⟨g_m,0 + 5,none⟩)) (fun w hs => (fa78_3 (.tmp rfl rfl))) ?_
 refine q_yes (yl (dj:=79) (b:=true) rfl rfl (cVb (by rw [hc41]; rfl))) ?_
 refine q_st (v:=.agg #[.int .u64 ((m_prom.N:Nat):Int),.int .i64 m_prom.P]) (fun w hs => (ld34 (cs:=[.int .u64 ((m_prom.N:Nat):Int),.int .i64 m_prom.P]) (.tmp rfl rfl) (hs.at_ 1 rfl (0 + 5) rfl) rfl)) ?_
 refine q_yes (yl (dj:=79) (b:=true) rfl rfl (cVb (by rw [hc41]; rfl))) ?_
 refine q_st (v:=.pointer (some ⟨gp_m,0,none⟩)) (fun w hs => (x_move (.tmp rfl hρ38))) ?_
 refine q_yes (yl (dj:=79) (b:=true) rfl rfl (cVb (by rw [hc41]; rfl))) ?_
 refine q_st (v:=.pointer (some ⟨gp_m,0,none⟩)) (fun w hs => (x_nilCheck (.tmp rfl rfl))) ?_
 refine q_yes (yl (dj:=79) (b:=true) rfl rfl (cVb (by rw [hc41]; rfl))) ?_
 refine q_st (v:=.pointer (some ⟨gp_m,0 + 0,none⟩)) (fun w hs => (fa81_0 (.tmp rfl rfl))) ?_
 refine q_yes (yl (dj:=79) (b:=true) rfl rfl (cVb (by rw [hc41]; rfl))) ?_
 refine q_st (v:=.pointer (some ⟨gp_m,0 + 0 + 0,none⟩)) (fun w hs => (fa39_0 (.tmp rfl rfl))) ?_
 refine q_yes (yl (dj:=79) (b:=true) rfl rfl (cVb (by rw [hc41]; rfl))) ?_
 refine q_st (v:=.agg #[.int .u64 ((p_m.v.ID.N:Nat):Int),.int .i64 p_m.v.ID.P]) (fun w hs => (ld34 (cs:=[.int .u64 ((p_m.v.ID.N:Nat):Int),.int .i64 p_m.v.ID.P]) (.tmp rfl rfl) (hs.at_ 2 rfl (0 + 0 + 0) rfl) rfl)) ?_
 refine q_yes (yl (dj:=79) (b:=true) rfl rfl (cVb (by rw [hc41]; rfl))) ?_
 refine q_st (v:=.bool ((((m_prom.N:Nat):Int) == ((p_m.v.ID.N:Nat):Int)) && ((m_prom.P == p_m.v.ID.P) && true))) (fun w hs => (x_eqlA eqg34 (.tmp rfl rfl) (.tmp rfl rfl) (fun d => eqs34 (d + 98) _ ((m_prom.N:Nat):Int) ((p_m.v.ID.N:Nat):Int) m_prom.P p_m.v.ID.P))) ?_
 refine q_st (v:=.bool (decide (m_prom = p_m.v.ID))) (fun w hs => (x_pick_t (.tmp rfl (cVb (by rw [hc41]; rfl))) (.tmp rfl (cVb (GViewID.beq_dec m_prom p_m.v.ID))))) ?_
 exact jq_end ⟨(cVb (jand_t (by rw [hc41]; rfl))),hρ35,hρ36,hρ37,hρ38,(cVb hnd),True.intro⟩
 rintro ρ ⟨hρ42,hρ43,hρ44,hρ45,hρ46,hρ47,_⟩
 refine q_st (v:=.bool ((!p_m.done) && (decide (m_prom = p_m.v.ID)))) (fun w hs => (x_move (.tmp rfl hρ42))) ?_
 refine jq 8 (fun ρ => ρ 99 = .bool (((!p_m.done) && (decide (m_prom = p_m.v.ID))) && (decide ((((p_m.v.Set:Nat):Int):Int) = (((wth (est &&& (2 ^ m_n - 1)) ((m_self:Nat):Int)):Nat):Int))))∧ρ 0 = .pointer (some ⟨g_m,0,none⟩)∧ρ 1 = .int .u16 (((wth (est &&& (2 ^ m_n - 1)) ((m_self:Nat):Int)):Nat):Int)∧ρ 5 = .pointer (some ⟨g10,0,none⟩)∧ρ 8 = .pointer (some ⟨gp_m,0,none⟩)∧ρ 9 = .bool (MB.need (MB.mk m_n m_self m_cur m_prom m_high (some p_m) m_jl m_os) (wth (est &&& (2 ^ m_n - 1)) ((m_self:Nat):Int)))∧True) ?_ ?_
 rcases Bool.eq_false_or_eq_true ((!p_m.done) && (decide (m_prom = p_m.v.ID))) with hc49 | hc49
 have hp49:(¬ (p_m.done = true))∧(m_prom = p_m.v.ID):=((J_and (J_not Iff.rfl) decide_eq_true_iff)).1 hc49
 refine q_yes (yk 91 true rfl rfl hc49) ?_
 refine q_st (v:=.pointer (some ⟨gp_m,0,none⟩)) (fun w hs => (x_move (.tmp rfl hρ46))) ?_
 refine q_yes (yk 91 true rfl rfl hc49) ?_
 refine q_st (v:=.pointer (some ⟨gp_m,0,none⟩)) (fun w hs => (x_nilCheck (.tmp rfl rfl))) ?_
 refine q_yes (yk 91 true rfl rfl hc49) ?_
 refine q_st (v:=.pointer (some ⟨gp_m,0 + 0,none⟩)) (fun w hs => (fa81_0 (.tmp rfl rfl))) ?_
 refine q_yes (yk 91 true rfl rfl hc49) ?_
 refine q_st (v:=.pointer (some ⟨gp_m,0 + 0 + 2,none⟩)) (fun w hs => (fa39_1 (.tmp rfl rfl))) ?_
 refine q_yes (yk 91 true rfl rfl hc49) ?_
 refine q_st (v:=.int .u16 ((p_m.v.Set:Nat):Int)) (fun w hs => (ld31 (.tmp rfl rfl) (hs.cell 2 rfl (0 + 0 + 2) rfl))) ?_
 refine q_yes (yk 91 true rfl rfl hc49) ?_
 refine q_st (v:=.int .u16 (((wth (est &&& (2 ^ m_n - 1)) ((m_self:Nat):Int)):Nat):Int)) (fun w hs => (x_move (.tmp rfl hρ44))) ?_
 refine q_yes (yk 91 true rfl rfl hc49) ?_
 refine q_st (v:=.bool (decide ((((p_m.v.Set:Nat):Int):Int) = (((wth (est &&& (2 ^ m_n - 1)) ((m_self:Nat):Int)):Nat):Int)))) (fun w hs => (x_eql (k:=.u16) (a:=((p_m.v.Set:Nat):Int)) (b:=(((wth (est &&& (2 ^ m_n - 1)) ((m_self:Nat):Int)):Nat):Int)) (.tmp rfl rfl) (.tmp rfl rfl))) ?_
 refine q_st (v:=.bool (decide ((((p_m.v.Set:Nat):Int):Int) = (((wth (est &&& (2 ^ m_n - 1)) ((m_self:Nat):Int)):Nat):Int)))) (fun w hs => (x_pick_t (.tmp rfl (cVb hc49)) (.tmp rfl rfl))) ?_
 exact jq_end ⟨(cVb (jand_t hc49)),hρ43,hρ44,hρ45,hρ46,hρ47,True.intro⟩
 have hp49:¬ ((¬ (p_m.done = true))∧(m_prom = p_m.v.ID)):=J_no (J_and (J_not Iff.rfl) decide_eq_true_iff) hc49
 refine q_no (yk 91 false rfl rfl hc49) rfl ?_
 refine q_no (yk 91 false rfl rfl hc49) rfl ?_
 refine q_no (yk 91 false rfl rfl hc49) rfl ?_
 refine q_no (yk 91 false rfl rfl hc49) rfl ?_
 refine q_no (yk 91 false rfl rfl hc49) rfl ?_
 refine q_no (yk 91 false rfl rfl hc49) rfl ?_
 refine q_no (yk 91 false rfl rfl hc49) rfl ?_
 refine q_st (v:=.bool false) (fun w hs => (x_pick_f (.tmp rfl (cVb hc49)) .const)) ?_
 exact jq_end ⟨(cVb (jand_f hc49)),hρ43,hρ44,hρ45,hρ46,hρ47,True.intro⟩
 rintro ρ ⟨hρ50,hρ51,hρ52,hρ53,hρ54,hρ55,_⟩
 refine q_st (v:=.bool (((!p_m.done) && (decide (m_prom = p_m.v.ID))) && (decide ((((p_m.v.Set:Nat):Int):Int) = (((wth (est &&& (2 ^ m_n - 1)) ((m_self:Nat):Int)):Nat):Int))))) (fun w hs => (x_move (.tmp rfl hρ50))) ?_
 refine jq 10 (fun ρ => ρ 110 = .bool ((((!p_m.done) && (decide (m_prom = p_m.v.ID))) && (decide ((((p_m.v.Set:Nat):Int):Int) = (((wth (est &&& (2 ^ m_n - 1)) ((m_self:Nat):Int)):Nat):Int)))) && (!(MB.ahead (MB.mk m_n m_self m_cur m_prom m_high (some p_m) m_jl m_os) (wth (est &&& (2 ^ m_n - 1)) ((m_self:Nat):Int)) p_m.v.ID)))∧ρ 0 = .pointer (some ⟨g_m,0,none⟩)∧ρ 1 = .int .u16 (((wth (est &&& (2 ^ m_n - 1)) ((m_self:Nat):Int)):Nat):Int)∧ρ 5 = .pointer (some ⟨g10,0,none⟩)∧ρ 9 = .bool (MB.need (MB.mk m_n m_self m_cur m_prom m_high (some p_m) m_jl m_os) (wth (est &&& (2 ^ m_n - 1)) ((m_self:Nat):Int)))∧True) ?_ ?_
 rcases Bool.eq_false_or_eq_true (((!p_m.done) && (decide (m_prom = p_m.v.ID))) && (decide ((((p_m.v.Set:Nat):Int):Int) = (((wth (est &&& (2 ^ m_n - 1)) ((m_self:Nat):Int)):Nat):Int)))) with hc57 | hc57
 have hp57:((¬ (p_m.done = true))∧(m_prom = p_m.v.ID))∧((((p_m.v.Set:Nat):Int):Int) = (((wth (est &&& (2 ^ m_n - 1)) ((m_self:Nat):Int)):Nat):Int)):=((J_and (J_and (J_not Iff.rfl) decide_eq_true_iff) decide_eq_true_iff)).1 hc57
 refine q_yes (yk 100 true rfl rfl hc57) ?_
 refine q_st (v:=.pointer (some ⟨g_m,0,none⟩)) (fun w hs => (x_move (.tmp rfl hρ51))) ?_
 refine q_yes (yk 100 true rfl rfl hc57) ?_
 refine q_st (v:=.int .u16 (((wth (est &&& (2 ^ m_n - 1)) ((m_self:Nat):Int)):Nat):Int)) (fun w hs => (x_move (.tmp rfl hρ52))) ?_
 refine q_yes (yk 100 true rfl rfl hc57) ?_
 refine q_st (v:=.pointer (some ⟨gp_m,0,none⟩)) (fun w hs => (x_move (.tmp rfl hρ54))) ?_
 refine q_yes (yk 100 true rfl rfl hc57) ?_
 refine q_st (v:=.pointer (some ⟨gp_m,0,none⟩)) (fun w hs => (x_nilCheck (.tmp rfl rfl))) ?_
 refine q_yes (yk 100 true rfl rfl hc57) ?_
 refine q_st (v:=.pointer (some ⟨gp_m,0 + 0,none⟩)) (fun w hs => (fa81_0 (.tmp rfl rfl))) ?_
 refine q_yes (yk 100 true rfl rfl hc57) ?_
 refine q_st (v:=.pointer (some ⟨gp_m,0 + 0 + 0,none⟩)) (fun w hs => (fa39_0 (.tmp rfl rfl))) ?_
 refine q_yes (yk 100 true rfl rfl hc57) ?_
 refine q_st (v:=.agg #[.int .u64 ((p_m.v.ID.N:Nat):Int),.int .i64 p_m.v.ID.P]) (fun w hs => (ld34 (cs:=[.int .u64 ((p_m.v.ID.N:Nat):Int),.int .i64 p_m.v.ID.P]) (.tmp rfl rfl) (hs.at_ 2 rfl (0 + 0 + 0) rfl) rfl)) ?_
 refine q_yes (yk 100 true rfl rfl hc57) ?_
 have okm58:MemB H m_n m_self m_cur m_prom m_high A_m jn_m jc_m m_jl m_os:=⟨hn1_m,hn16_m,hsf_m,⟨ok_m.cur.n,ok_m.cur.p⟩,ok_m.set,⟨ok_m.prom.n,ok_m.prom.p⟩,ok_m.high,ok_m.joined,ok_m.len,ok_m.oth⟩
 refine q_c (v:=.bool (MB.ahead (MB.mk m_n m_self m_cur m_prom m_high (some p_m) m_jl m_os) (wth (est &&& (2 ^ m_n - 1)) ((m_self:Nat):Int)) p_m.v.ID)) cb25 .func (evs3 (.tmp rfl rfl) (.tmp rfl rfl) (.tmp rfl rfl)) (fun w hs => calls_back (ahead_X (hs.p1) (m_prop:=(some p_m)) (m_n:=m_n) (m_self:=m_self) (m_cur:=m_cur) (m_prom:=m_prom) (m_high:=m_high) (m_jl:=m_jl) (m_os:=m_os) okm58 (wth (est &&& (2 ^ m_n - 1)) ((m_self:Nat):Int)) (wth_lt hb15 ((m_self:Nat):Int)) p_m.v.ID (k_v:=[.int .u64 ((p_m.v.ID.N:Nat):Int),.int .i64 p_m.v.ID.P]) ⟨rfl,hk_m.id.n,hk_m.id.p⟩ htab) (fun w h => h.unpick 1 rfl rfl)) ?_
 refine q_yes (yk 100 true rfl rfl hc57) ?_
 refine q_st (v:=.bool (!(MB.ahead (MB.mk m_n m_self m_cur m_prom m_high (some p_m) m_jl m_os) (wth (est &&& (2 ^ m_n - 1)) ((m_self:Nat):Int)) p_m.v.ID))) (fun w hs => (x_not (.tmp rfl rfl))) ?_
 refine q_st (v:=.bool (!(MB.ahead (MB.mk m_n m_self m_cur m_prom m_high (some p_m) m_jl m_os) (wth (est &&& (2 ^ m_n - 1)) ((m_self:Nat):Int)) p_m.v.ID))) (fun w hs => (x_pick_t (.tmp rfl (cVb hc57)) (.tmp rfl rfl))) ?_
 exact jq_end ⟨(cVb (jand_t hc57)),hρ51,hρ52,hρ53,hρ55,True.intro⟩
 have hp57:¬ (((¬ (p_m.done = true))∧(m_prom = p_m.v.ID))∧((((p_m.v.Set:Nat):Int):Int) = (((wth (est &&& (2 ^ m_n - 1)) ((m_self:Nat):Int)):Nat):Int))):=J_no (J_and (J_and (J_not Iff.rfl) decide_eq_true_iff) decide_eq_true_iff) hc57
 refine q_no (yk 100 false rfl rfl hc57) rfl ?_
 refine q_no (yk 100 false rfl rfl hc57) rfl ?_
 refine q_no (yk 100 false rfl rfl hc57) rfl ?_
 refine q_no (yk 100 false rfl rfl hc57) rfl ?_
 refine q_no (yk 100 false rfl rfl hc57) rfl ?_
 refine q_no (yk 100 false rfl rfl hc57) rfl ?_
 refine q_no (yk 100 false rfl rfl hc57) rfl ?_
 refine q_no (yk 100 false rfl rfl hc57) rfl ?_
 refine q_no (yk 100 false rfl rfl hc57) rfl ?_
 refine q_st (v:=.bool false) (fun w hs => (x_pick_f (.tmp rfl (cVb hc57)) .const)) ?_
 exact jq_end ⟨(cVb (jand_f hc57)),hρ51,hρ52,hρ53,hρ55,True.intro⟩
 rintro ρ ⟨hρ60,hρ61,hρ62,hρ63,hρ64,_⟩
 refine q_st (v:=.bool ((((!p_m.done) && (decide (m_prom = p_m.v.ID))) && (decide ((((p_m.v.Set:Nat):Int):Int) = (((wth (est &&& (2 ^ m_n - 1)) ((m_self:Nat):Int)):Nat):Int)))) && (!(MB.ahead (MB.mk m_n m_self m_cur m_prom m_high (some p_m) m_jl m_os) (wth (est &&& (2 ^ m_n - 1)) ((m_self:Nat):Int)) p_m.v.ID)))) (fun w hs => (x_assign (.tmp rfl hρ60))) ?_
 refine q_nil ?_
 intro w hs66
 refine n_then (c_seq (c_seq (q_region mixed hs66 (by kernel_rfl) ?_)))
 have hud:((((!p_m.done) && (decide (m_prom = p_m.v.ID))) && (decide ((((p_m.v.Set:Nat):Int):Int) = (((wth (est &&& (2 ^ m_n - 1)) ((m_self:Nat):Int)):Nat):Int)))) && (!(MB.ahead (MB.mk m_n m_self m_cur m_prom m_high (some p_m) m_jl m_os) (wth (est &&& (2 ^ m_n - 1)) ((m_self:Nat):Int)) p_m.v.ID))) = (MB.under (MB.mk m_n m_self m_cur m_prom m_high (some p_m) m_jl m_os) (wth (est &&& (2 ^ m_n - 1)) ((m_self:Nat):Int))):=under_is (m:=(MB.mk m_n m_self m_cur m_prom m_high (some p_m) m_jl m_os)) rfl
 skip
 refine q_st (v:=.int .u16 (((wth (est &&& (2 ^ m_n - 1)) ((m_self:Nat):Int)):Nat):Int)) (fun w hs => (x_move (.tmp rfl hρ62))) ?_
 refine q_c (v:=.int .i64 (least (wth (est &&& (2 ^ m_n - 1)) ((m_self:Nat):Int)))) cb26 .func (evs1 (.tmp rfl rfl)) (fun w hs => least_spec hs htab (wth (est &&& (2 ^ m_n - 1)) ((m_self:Nat):Int)) (wth_lt hb15 ((m_self:Nat):Int))) ?_
 refine q_st (v:=.pointer (some ⟨g_m,0,none⟩)) (fun w hs => (x_move (.tmp rfl hρ61))) ?_
 refine q_st (v:=.pointer (some ⟨g_m,0,none⟩)) (fun w hs => (x_nilCheck (.tmp rfl rfl))) ?_
 refine q_st (v:=.pointer (some ⟨g_m,0 + 1,none⟩)) (fun w hs => (fa78_1 (.tmp rfl rfl))) ?_
 refine q_st (v:=.int .i64 ((m_self:Nat):Int)) (fun w hs => (ld3 (.tmp rfl rfl) (hs.cell 1 rfl (0 + 1) rfl))) ?_
 refine q_st (v:=.bool (decide (((least (wth (est &&& (2 ^ m_n - 1)) ((m_self:Nat):Int))):Int) = ((m_self:Nat):Int)))) (fun w hs => (x_eql (k:=.i64) (a:=(least (wth (est &&& (2 ^ m_n - 1)) ((m_self:Nat):Int)))) (b:=((m_self:Nat):Int)) (.tmp rfl rfl) (.tmp rfl rfl))) ?_
 refine q_st (v:=.bool (decide (((least (wth (est &&& (2 ^ m_n - 1)) ((m_self:Nat):Int))):Int) = ((m_self:Nat):Int)))) (fun w hs => (x_move (.tmp rfl rfl))) ?_
 refine jq 2 (fun ρ => ρ 120 = .bool ((decide (((least (wth (est &&& (2 ^ m_n - 1)) ((m_self:Nat):Int))):Int) = ((m_self:Nat):Int))) && (MB.need (MB.mk m_n m_self m_cur m_prom m_high (some p_m) m_jl m_os) (wth (est &&& (2 ^ m_n - 1)) ((m_self:Nat):Int))))∧ρ 0 = .pointer (some ⟨g_m,0,none⟩)∧ρ 1 = .int .u16 (((wth (est &&& (2 ^ m_n - 1)) ((m_self:Nat):Int)):Nat):Int)∧ρ 5 = .pointer (some ⟨g10,0,none⟩)∧ρ 10 = .bool (MB.under (MB.mk m_n m_self m_cur m_prom m_high (some p_m) m_jl m_os) (wth (est &&& (2 ^ m_n - 1)) ((m_self:Nat):Int)))∧True) ?_ ?_
 rcases Bool.eq_false_or_eq_true (decide (((least (wth (est &&& (2 ^ m_n - 1)) ((m_self:Nat):Int))):Int) = ((m_self:Nat):Int))) with hc67 | hc67
 have hp67:((least (wth (est &&& (2 ^ m_n - 1)) ((m_self:Nat):Int))):Int) = ((m_self:Nat):Int):=of_decide_eq_true hc67
 refine q_yes (yk 118 true rfl rfl hc67) ?_
 refine q_st (v:=.bool (MB.need (MB.mk m_n m_self m_cur m_prom m_high (some p_m) m_jl m_os) (wth (est &&& (2 ^ m_n - 1)) ((m_self:Nat):Int)))) (fun w hs => (x_move (.tmp rfl hρ64))) ?_
 refine q_st (v:=.bool (MB.need (MB.mk m_n m_self m_cur m_prom m_high (some p_m) m_jl m_os) (wth (est &&& (2 ^ m_n - 1)) ((m_self:Nat):Int)))) (fun w hs => (x_pick_t (.tmp rfl (cVb hc67)) (.tmp rfl rfl))) ?_
 exact jq_end ⟨(cVb (jand_t hc67)),hρ61,hρ62,hρ63,(cVb hud),True.intro⟩
 have hp67:¬ (((least (wth (est &&& (2 ^ m_n - 1)) ((m_self:Nat):Int))):Int) = ((m_self:Nat):Int)):=of_decide_eq_false hc67
 refine q_no (yk 118 false rfl rfl hc67) rfl ?_
 refine q_st (v:=.bool false) (fun w hs => (x_pick_f (.tmp rfl (cVb hc67)) .const)) ?_
 exact jq_end ⟨(cVb (jand_f hc67)),hρ61,hρ62,hρ63,(cVb hud),True.intro⟩
 rintro ρ ⟨hρ68,hρ69,hρ70,hρ71,hρ72,_⟩
 refine q_st (v:=.bool ((decide (((least (wth (est &&& (2 ^ m_n - 1)) ((m_self:Nat):Int))):Int) = ((m_self:Nat):Int))) && (MB.need (MB.mk m_n m_self m_cur m_prom m_high (some p_m) m_jl m_os) (wth (est &&& (2 ^ m_n - 1)) ((m_self:Nat):Int))))) (fun w hs => (x_move (.tmp rfl hρ68))) ?_
 refine jq 3 (fun ρ => ρ 124 = .bool (((decide (((least (wth (est &&& (2 ^ m_n - 1)) ((m_self:Nat):Int))):Int) = ((m_self:Nat):Int))) && (MB.need (MB.mk m_n m_self m_cur m_prom m_high (some p_m) m_jl m_os) (wth (est &&& (2 ^ m_n - 1)) ((m_self:Nat):Int)))) && (!(MB.under (MB.mk m_n m_self m_cur m_prom m_high (some p_m) m_jl m_os) (wth (est &&& (2 ^ m_n - 1)) ((m_self:Nat):Int)))))∧ρ 0 = .pointer (some ⟨g_m,0,none⟩)∧ρ 1 = .int .u16 (((wth (est &&& (2 ^ m_n - 1)) ((m_self:Nat):Int)):Nat):Int)∧ρ 5 = .pointer (some ⟨g10,0,none⟩)∧True) ?_ ?_
 rcases Bool.eq_false_or_eq_true ((decide (((least (wth (est &&& (2 ^ m_n - 1)) ((m_self:Nat):Int))):Int) = ((m_self:Nat):Int))) && (MB.need (MB.mk m_n m_self m_cur m_prom m_high (some p_m) m_jl m_os) (wth (est &&& (2 ^ m_n - 1)) ((m_self:Nat):Int)))) with hc74 | hc74
 have hp74:(((least (wth (est &&& (2 ^ m_n - 1)) ((m_self:Nat):Int))):Int) = ((m_self:Nat):Int))∧((MB.need (MB.mk m_n m_self m_cur m_prom m_high (some p_m) m_jl m_os) (wth (est &&& (2 ^ m_n - 1)) ((m_self:Nat):Int))) = true):=((J_and decide_eq_true_iff Iff.rfl)).1 hc74
 refine q_yes (yk 121 true rfl rfl hc74) ?_
 refine q_st (v:=.bool (MB.under (MB.mk m_n m_self m_cur m_prom m_high (some p_m) m_jl m_os) (wth (est &&& (2 ^ m_n - 1)) ((m_self:Nat):Int)))) (fun w hs => (x_move (.tmp rfl hρ72))) ?_
 refine q_yes (yk 121 true rfl rfl hc74) ?_
 refine q_st (v:=.bool (!(MB.under (MB.mk m_n m_self m_cur m_prom m_high (some p_m) m_jl m_os) (wth (est &&& (2 ^ m_n - 1)) ((m_self:Nat):Int))))) (fun w hs => (x_not (.tmp rfl rfl))) ?_
 refine q_st (v:=.bool (!(MB.under (MB.mk m_n m_self m_cur m_prom m_high (some p_m) m_jl m_os) (wth (est &&& (2 ^ m_n - 1)) ((m_self:Nat):Int))))) (fun w hs => (x_pick_t (.tmp rfl (cVb hc74)) (.tmp rfl rfl))) ?_
 exact jq_end ⟨(cVb (jand_t hc74)),hρ69,hρ70,hρ71,True.intro⟩
 have hp74:¬ ((((least (wth (est &&& (2 ^ m_n - 1)) ((m_self:Nat):Int))):Int) = ((m_self:Nat):Int))∧((MB.need (MB.mk m_n m_self m_cur m_prom m_high (some p_m) m_jl m_os) (wth (est &&& (2 ^ m_n - 1)) ((m_self:Nat):Int))) = true)):=J_no (J_and decide_eq_true_iff Iff.rfl) hc74
 refine q_no (yk 121 false rfl rfl hc74) rfl ?_
 refine q_no (yk 121 false rfl rfl hc74) rfl ?_
 refine q_st (v:=.bool false) (fun w hs => (x_pick_f (.tmp rfl (cVb hc74)) .const)) ?_
 exact jq_end ⟨(cVb (jand_f hc74)),hρ69,hρ70,hρ71,True.intro⟩
 rintro ρ ⟨hρ75,hρ76,hρ77,hρ78,_⟩
 refine q_nil ?_
 intro w hs80
 refine n_then ?_
 rcases Bool.eq_false_or_eq_true (((decide (((least (wth (est &&& (2 ^ m_n - 1)) ((m_self:Nat):Int))):Int) = ((m_self:Nat):Int))) && (MB.need (MB.mk m_n m_self m_cur m_prom m_high (some p_m) m_jl m_os) (wth (est &&& (2 ^ m_n - 1)) ((m_self:Nat):Int)))) && (!(MB.under (MB.mk m_n m_self m_cur m_prom m_high (some p_m) m_jl m_os) (wth (est &&& (2 ^ m_n - 1)) ((m_self:Nat):Int))))) with hc81 | hc81
 have hp81:((((least (wth (est &&& (2 ^ m_n - 1)) ((m_self:Nat):Int))):Int) = ((m_self:Nat):Int))∧((MB.need (MB.mk m_n m_self m_cur m_prom m_high (some p_m) m_jl m_os) (wth (est &&& (2 ^ m_n - 1)) ((m_self:Nat):Int))) = true))∧(¬ ((MB.under (MB.mk m_n m_self m_cur m_prom m_high (some p_m) m_jl m_os) (wth (est &&& (2 ^ m_n - 1)) ((m_self:Nat):Int))) = true)):=((J_and (J_and decide_eq_true_iff Iff.rfl) (J_not Iff.rfl))).1 hc81
 refine c_cond_t (t:=true) (.tmp rfl (hρ75.trans (cVb hc81))) rfl ?_
 refine c_seq (c_region (st (v:=.pointer (some ⟨g_m,0,none⟩)) (x_move (.tmp rfl hρ76)) ?_))
 refine st (v:=.pointer (some ⟨g_m,0,none⟩)) (x_nilCheck (.tmp rfl rfl)) ?_
 refine st (v:=.pointer (some ⟨g_m,0 + 7,none⟩)) (fa78_4 (.tmp rfl rfl)) ?_
 refine st (v:=.int .u64 ((m_high:Nat):Int)) (ld32 (.tmp rfl rfl) (hs80.cell 1 rfl (0 + 7) rfl)) ?_
 refine st (v:=.int .u64 ((((m_high + 1) % 18446744073709551616):Nat):Int)) (x_add (k:=.u64) (a:=((m_high:Nat):Int)) (b:=1) (.tmp rfl rfl) .const (wAddN (m:=m_high) (n:=1) _ rfl rfl rfl)) ?_
 refine st (v:=.pointer (some ⟨g_m,0,none⟩)) (x_nilCheck (.tmp rfl rfl)) ?_
 refine st (v:=.pointer (some ⟨g_m,0 + 7,none⟩)) (fa78_4 (.tmp rfl rfl)) ?_
 have hs82:=hs80.p1
 refine st_m0 (sto32 (cs':=((.int .i64 ((m_n:Nat):Int))::(.int .i64 ((m_self:Nat):Int))::(.int .u64 ((m_cur.ID.N:Nat):Int))::(.int .i64 m_cur.ID.P)::(.int .u16 ((m_cur.Set:Nat):Int))::(.int .u64 ((m_prom.N:Nat):Int))::(.int .i64 m_prom.P)::(.int .u64 ((((m_high + 1) % 18446744073709551616):Nat):Int))::(.pointer (some ⟨gp_m,0,none⟩))::(.slice A_m jn_m jc_m)::oCells m_os)) (i:=0 + 7) hs82 (v:=.int .u64 ((((m_high + 1) % 18446744073709551616):Nat):Int)) (.tmp rfl rfl) (.tmp rfl rfl) rfl (Nat.le_of_ble_eq_true rfl) one1 rfl) ?_
 rintro w83 hs85
 refine c_nil (n_then (c_seq (t_region (L:=obj g_m 78 ((.int .i64 ((m_n:Nat):Int))::(.int .i64 ((m_self:Nat):Int))::(.int .u64 ((m_cur.ID.N:Nat):Int))::(.int .i64 m_cur.ID.P)::(.int .u16 ((m_cur.Set:Nat):Int))::(.int .u64 ((m_prom.N:Nat):Int))::(.int .i64 m_prom.P)::(.int .u64 ((((m_high + 1) % 18446744073709551616):Nat):Int))::(.pointer (some ⟨gp_m,0,none⟩))::(.slice A_m jn_m jc_m)::oCells m_os)::obj g10 37 (clState sx A6 n7 c8)::obj gp_m 81 (clProp p_m sv_m)::row 37 4 sv_m p_m.states.length sc_m::L) (L':=obj g_m 78 ((.int .i64 ((m_n:Nat):Int))::(.int .i64 ((m_self:Nat):Int))::(.int .u64 ((m_cur.ID.N:Nat):Int))::(.int .i64 m_cur.ID.P)::(.int .u16 ((m_cur.Set:Nat):Int))::(.int .u64 ((m_prom.N:Nat):Int))::(.int .i64 m_prom.P)::(.int .u64 ((((m_high + 1) % 18446744073709551616):Nat):Int))::(.pointer (some ⟨gp_m,0,none⟩))::(.slice A_m jn_m jc_m)::oCells m_os)::obj g10 37 (clState sx A6 n7 c8)::obj gp_m 81 (clProp p_m sv_m)::row 37 4 sv_m p_m.states.length sc_m::L) (Z:=[12]) (F:=[]) (pl:=(.q 0 (.q 1 (.q 2 (.q 3 (.q 4 (.q 5 (.q 6 (.q 7 (.q 8 (.q 9 (.q 10 (.e 11 (.e 12 .done)))))))))))))) mixed hs85 (fun u hu => hu) (by kernel_rfl) ?_)))
 intro w86 hs87
 refine t_st (k:=0) (v:=.pointer (some ⟨g_m,0,none⟩)) rfl rfl (fun w hs => (x_move (.tmp rfl hρ76))) ?_
 refine t_st (k:=1) (v:=.pointer (some ⟨g_m,0,none⟩)) rfl rfl (fun w hs => (x_nilCheck (.tmp rfl rfl))) ?_
 refine t_st (k:=2) (v:=.pointer (some ⟨g_m,0 + 7,none⟩)) rfl rfl (fun w hs => (fa78_4 (.tmp rfl rfl))) ?_
 refine t_st (k:=3) (v:=.int .u64 ((((m_high + 1) % 18446744073709551616):Nat):Int)) rfl rfl (fun w hs => (ld32 (.tmp rfl rfl) (hs.cell 0 rfl (0 + 7) rfl))) ?_
 refine t_st (k:=4) (v:=.pointer (some ⟨g_m,0,none⟩)) rfl rfl (fun w hs => (x_move (.tmp rfl hρ76))) ?_
 refine t_st (k:=5) (v:=.pointer (some ⟨g_m,0,none⟩)) rfl rfl (fun w hs => (x_nilCheck (.tmp rfl rfl))) ?_
 refine t_st (k:=6) (v:=.pointer (some ⟨g_m,0 + 1,none⟩)) rfl rfl (fun w hs => (fa78_1 (.tmp rfl rfl))) ?_
 refine t_st (k:=7) (v:=.int .i64 ((m_self:Nat):Int)) rfl rfl (fun w hs => (ld3 (.tmp rfl rfl) (hs.cell 0 rfl (0 + 1) rfl))) ?_
 refine t_st (k:=8) (v:=.agg #[.int .u64 ((((m_high + 1) % 18446744073709551616):Nat):Int),.int .i64 ((m_self:Nat):Int)]) rfl rfl (fun w hs => (bl34 (ps:=[(0,.int .u64 ((((m_high + 1) % 18446744073709551616):Nat):Int)),(1,.int .i64 ((m_self:Nat):Int))]) (.cons (.tmp rfl rfl) (.cons (.tmp rfl rfl) Evp.nil)) rfl)) ?_
 refine t_st (k:=9) (v:=.int .u16 (((wth (est &&& (2 ^ m_n - 1)) ((m_self:Nat):Int)):Nat):Int)) rfl rfl (fun w hs => (x_move (.tmp rfl hρ77))) ?_
 refine t_st (k:=10) (v:=.agg #[.int .u64 ((((m_high + 1) % 18446744073709551616):Nat):Int),.int .i64 ((m_self:Nat):Int),.int .u16 (((wth (est &&& (2 ^ m_n - 1)) ((m_self:Nat):Int)):Nat):Int)]) rfl rfl (fun w hs => (bl39 (ps:=[(0,.agg #[.int .u64 ((((m_high + 1) % 18446744073709551616):Nat):Int),.int .i64 ((m_self:Nat):Int)]),(1,.int .u16 (((wth (est &&& (2 ^ m_n - 1)) ((m_self:Nat):Int)):Nat):Int))]) (.cons (.tmp rfl rfl) (.cons (.tmp rfl rfl) Evp.nil)) rfl)) ?_
 refine t_eff (k:=11) rfl ?_
 refine st_m (al39 (cs:=[.int .u64 0,.int .i64 0,.int .u16 0]) hs87 rfl) ?_
 rintro _ w89 ⟨g88,rfl,hs91⟩
 refine t_on (S':=fun u => St H u (obj g88 39 [.int .u64 0,.int .i64 0,.int .u16 0]::obj g_m 78 ((.int .i64 ((m_n:Nat):Int))::(.int .i64 ((m_self:Nat):Int))::(.int .u64 ((m_cur.ID.N:Nat):Int))::(.int .i64 m_cur.ID.P)::(.int .u16 ((m_cur.Set:Nat):Int))::(.int .u64 ((m_prom.N:Nat):Int))::(.int .i64 m_prom.P)::(.int .u64 ((((m_high + 1) % 18446744073709551616):Nat):Int))::(.pointer (some ⟨gp_m,0,none⟩))::(.slice A_m jn_m jc_m)::oCells m_os)::obj g10 37 (clState sx A6 n7 c8)::obj gp_m 81 (clProp p_m sv_m)::row 37 4 sv_m p_m.states.length sc_m::L)) (fun u hu => hu.drop) hs91 ?_
 refine t_eff (k:=12) rfl ?_
 refine st_m0 (sto39 (cs':=[.int .u64 ((((m_high + 1) % 18446744073709551616):Nat):Int),.int .i64 ((m_self:Nat):Int),.int .u16 (((wth (est &&& (2 ^ m_n - 1)) ((m_self:Nat):Int)):Nat):Int)]) (i:=0) hs91 (v:=.agg #[.int .u64 ((((m_high + 1) % 18446744073709551616):Nat):Int),.int .i64 ((m_self:Nat):Int),.int .u16 (((wth (est &&& (2 ^ m_n - 1)) ((m_self:Nat):Int)):Nat):Int)]) (.tmp rfl rfl) (.tmp rfl rfl) rfl (Nat.le_of_ble_eq_true rfl) (oneA rfl) rfl) ?_
 rintro w92 hs94
 refine t_new (S':=fun u => St H u (obj g88 39 [.int .u64 ((((m_high + 1) % 18446744073709551616):Nat):Int),.int .i64 ((m_self:Nat):Int),.int .u16 (((wth (est &&& (2 ^ m_n - 1)) ((m_self:Nat):Int)):Nat):Int)]::obj g_m 78 ((.int .i64 ((m_n:Nat):Int))::(.int .i64 ((m_self:Nat):Int))::(.int .u64 ((m_cur.ID.N:Nat):Int))::(.int .i64 m_cur.ID.P)::(.int .u16 ((m_cur.Set:Nat):Int))::(.int .u64 ((m_prom.N:Nat):Int))::(.int .i64 m_prom.P)::(.int .u64 ((((m_high + 1) % 18446744073709551616):Nat):Int))::(.pointer (some ⟨gp_m,0,none⟩))::(.slice A_m jn_m jc_m)::oCells m_os)::obj g10 37 (clState sx A6 n7 c8)::obj gp_m 81 (clProp p_m sv_m)::row 37 4 sv_m p_m.states.length sc_m::L)) rfl hs94 ?_
 refine t_nil ?_
 refine n_then (c_seq (u_region (L:=obj g88 39 [.int .u64 ((((m_high + 1) % 18446744073709551616):Nat):Int),.int .i64 ((m_self:Nat):Int),.int .u16 (((wth (est &&& (2 ^ m_n - 1)) ((m_self:Nat):Int)):Nat):Int)]::obj g_m 78 ((.int .i64 ((m_n:Nat):Int))::(.int .i64 ((m_self:Nat):Int))::(.int .u64 ((m_cur.ID.N:Nat):Int))::(.int .i64 m_cur.ID.P)::(.int .u16 ((m_cur.Set:Nat):Int))::(.int .u64 ((m_prom.N:Nat):Int))::(.int .i64 m_prom.P)::(.int .u64 ((((m_high + 1) % 18446744073709551616):Nat):Int))::(.pointer (some ⟨gp_m,0,none⟩))::(.slice A_m jn_m jc_m)::oCells m_os)::obj g10 37 (clState sx A6 n7 c8)::obj gp_m 81 (clProp p_m sv_m)::row 37 4 sv_m p_m.states.length sc_m::L) (L':=obj g88 39 [.int .u64 ((((m_high + 1) % 18446744073709551616):Nat):Int),.int .i64 ((m_self:Nat):Int),.int .u16 (((wth (est &&& (2 ^ m_n - 1)) ((m_self:Nat):Int)):Nat):Int)]::obj g_m 78 ((.int .i64 ((m_n:Nat):Int))::(.int .i64 ((m_self:Nat):Int))::(.int .u64 ((m_cur.ID.N:Nat):Int))::(.int .i64 m_cur.ID.P)::(.int .u16 ((m_cur.Set:Nat):Int))::(.int .u64 ((m_prom.N:Nat):Int))::(.int .i64 m_prom.P)::(.int .u64 ((((m_high + 1) % 18446744073709551616):Nat):Int))::(.pointer (some ⟨gp_m,0,none⟩))::(.slice A_m jn_m jc_m)::oCells m_os)::obj g10 37 (clState sx A6 n7 c8)::obj gp_m 81 (clProp p_m sv_m)::row 37 4 sv_m p_m.states.length sc_m::L) (Z:=[16,19]) (F:=[1,4,10,12]) (Lw:=obj g88 39 [.int .u64 ((((m_high + 1) % 18446744073709551616):Nat):Int),.int .i64 ((m_self:Nat):Int),.int .u16 (((wth (est &&& (2 ^ m_n - 1)) ((m_self:Nat):Int)):Nat):Int)]::obj g10 37 (clState sx A6 n7 c8)::obj gp_m 81 (clProp p_m sv_m)::row 37 4 sv_m p_m.states.length sc_m::L) (pl:=(.q 0 (.q 1 (.q 2 (.q 3 (.q 4 (.q 5 (.q 6 (.q 7 (.q 8 (.q 10 (.two 9 (.q 14 (.q 15 (.two 11 (.q 12 (.two 13 (.e 16 (.q 17 (.q 18 (.e 19 .done)))) 16 (.e 13 (.q 17 (.q 18 (.e 19 .done)))))) 16 (.e 11 (.q 12 (.e 13 (.q 17 (.q 18 (.e 19 .done))))))))) 11 (.e 9 (.q 12 (.q 14 (.q 15 (.two 13 (.e 16 (.q 17 (.q 18 (.e 19 .done)))) 16 (.e 13 (.q 17 (.q 18 (.e 19 .done))))))))))))))))))))) mixed hs94 (fun u hu => hu) (fun u hu => (hu.p1).drop) (by kernel_rfl) ?_))
 intro w95 hs96
 refine u_st (k:=0) (v:=.pointer (some ⟨g_m,0,none⟩)) rfl rfl (fun w hs => (x_move (.tmp rfl hρ76))) ?_
 refine u_fr (k:=1) (v:=.pointer (some ⟨g_m,0,none⟩)) rfl rfl (fun w hs => (x_move (.tmp rfl hρ76))) ?_
 refine u_st (k:=2) (v:=.pointer (some ⟨g88,0 + 0,none⟩)) rfl rfl (fun w hs => (fa39_0 (.tmp rfl rfl))) ?_
 refine u_st (k:=3) (v:=.agg #[.int .u64 ((((m_high + 1) % 18446744073709551616):Nat):Int),.int .i64 ((m_self:Nat):Int)]) rfl rfl (fun w hs => (ld34 (cs:=[.int .u64 ((((m_high + 1) % 18446744073709551616):Nat):Int),.int .i64 ((m_self:Nat):Int)]) (.tmp rfl rfl) (hs.at_ 0 rfl (0 + 0) rfl) rfl)) ?_
 refine u_fr (k:=4) (v:=.agg #[.int .u64 ((((m_high + 1) % 18446744073709551616):Nat):Int),.int .i64 ((m_self:Nat):Int),.int .u16 (((wth (est &&& (2 ^ m_n - 1)) ((m_self:Nat):Int)):Nat):Int)]) rfl rfl (fun w hs => (ld39 (cs:=[.int .u64 ((((m_high + 1) % 18446744073709551616):Nat):Int),.int .i64 ((m_self:Nat):Int),.int .u16 (((wth (est &&& (2 ^ m_n - 1)) ((m_self:Nat):Int)):Nat):Int)]) (.tmp rfl rfl) (hs.at_ 0 rfl (0) rfl) rfl)) ?_
 refine u_st (k:=5) (v:=.pointer (some ⟨g_m,0,none⟩)) rfl rfl (fun w hs => (x_move (.tmp rfl hρ76))) ?_
 refine u_st (k:=6) (v:=.pointer (some ⟨g_m,0,none⟩)) rfl rfl (fun w hs => (x_nilCheck (.tmp rfl rfl))) ?_
 refine u_st (k:=7) (v:=.pointer (some ⟨g_m,0 + 1,none⟩)) rfl rfl (fun w hs => (fa78_1 (.tmp rfl rfl))) ?_
 refine u_st (k:=8) (v:=.int .i64 ((m_self:Nat):Int)) rfl rfl (fun w hs => (ld3 (.tmp rfl rfl) (hs.cell 1 rfl (0 + 1) rfl))) ?_
 refine u_fr (k:=10) (v:=.agg #[.int .u64 ((sx.V.N:Nat):Int),.int .i64 sx.V.P,.int .i64 sx.Floor,.slice A6 n7 c8]) rfl rfl (fun w hs => (ld37 (cs:=[.int .u64 ((sx.V.N:Nat):Int),.int .i64 sx.V.P,.int .i64 sx.Floor,.slice A6 n7 c8]) (.tmp rfl hρ78) (hs.at_ 1 rfl (0) rfl) rfl)) ?_
 refine u_two ?_ ?_
 refine u_eff (k:=9) rfl ?_
 refine st_c cb24 .func (evs2 .const (.tmp rfl rfl)) (with_spec hs96 0 ((m_self:Nat):Int) (by decide) (by omega)) ?_
 rintro e w97 ⟨rfl,hs98⟩
 refine ⟨_,rfl,?_⟩
 refine u_on (S':=fun u => St H u (obj g88 39 [.int .u64 ((((m_high + 1) % 18446744073709551616):Nat):Int),.int .i64 ((m_self:Nat):Int),.int .u16 (((wth (est &&& (2 ^ m_n - 1)) ((m_self:Nat):Int)):Nat):Int)]::obj g_m 78 ((.int .i64 ((m_n:Nat):Int))::(.int .i64 ((m_self:Nat):Int))::(.int .u64 ((m_cur.ID.N:Nat):Int))::(.int .i64 m_cur.ID.P)::(.int .u16 ((m_cur.Set:Nat):Int))::(.int .u64 ((m_prom.N:Nat):Int))::(.int .i64 m_prom.P)::(.int .u64 ((((m_high + 1) % 18446744073709551616):Nat):Int))::(.pointer (some ⟨gp_m,0,none⟩))::(.slice A_m jn_m jc_m)::oCells m_os)::obj g10 37 (clState sx A6 n7 c8)::obj gp_m 81 (clProp p_m sv_m)::row 37 4 sv_m p_m.states.length sc_m::L)) (fun u hu => hu) (fun u hu => (hu.p1).drop) hs98 ?_
 refine u_st (k:=14) (v:=.pointer (some ⟨g_m,0,none⟩)) rfl rfl (fun w hs => (x_nilCheck (.tmp rfl rfl))) ?_
 refine u_st (k:=15) (v:=.pointer (some ⟨g_m,0 + 5,none⟩)) rfl rfl (fun w hs => (fa78_3 (.tmp rfl rfl))) ?_
 refine u_two ?_ ?_
 refine u_eff (k:=11) rfl ?_
 refine st_m (m_lit (n:=1) (ps:=[(0,.agg #[.int .u64 ((sx.V.N:Nat):Int),.int .i64 sx.V.P,.int .i64 sx.Floor,.slice A6 n7 c8])]) (cs:=[.int .u64 ((sx.V.N:Nat):Int),.int .i64 sx.V.P,.int .i64 sx.Floor,.slice A6 n7 c8]) Tryd.underlying40 inf37 (.cons (.tmp rfl rfl) Evp.nil) (by decide) (by decide) rfl rfl hs98) ?_
 rintro _ w100 ⟨g99,rfl,hs102⟩
 refine u_on (S':=fun u => St H u (obj g99 37 (clState sx A6 n7 c8)::obj g88 39 [.int .u64 ((((m_high + 1) % 18446744073709551616):Nat):Int),.int .i64 ((m_self:Nat):Int),.int .u16 (((wth (est &&& (2 ^ m_n - 1)) ((m_self:Nat):Int)):Nat):Int)]::obj g_m 78 ((.int .i64 ((m_n:Nat):Int))::(.int .i64 ((m_self:Nat):Int))::(.int .u64 ((m_cur.ID.N:Nat):Int))::(.int .i64 m_cur.ID.P)::(.int .u16 ((m_cur.Set:Nat):Int))::(.int .u64 ((m_prom.N:Nat):Int))::(.int .i64 m_prom.P)::(.int .u64 ((((m_high + 1) % 18446744073709551616):Nat):Int))::(.pointer (some ⟨gp_m,0,none⟩))::(.slice A_m jn_m jc_m)::oCells m_os)::obj g10 37 (clState sx A6 n7 c8)::obj gp_m 81 (clProp p_m sv_m)::row 37 4 sv_m p_m.states.length sc_m::L)) (fun u hu => hu.drop) (fun u hu => (hu.drop.p1).drop) hs102 ?_
 refine u_fr (k:=12) (v:=.agg #[.int .u64 ((((m_high + 1) % 18446744073709551616):Nat):Int),.int .i64 ((m_self:Nat):Int),.int .u16 (((wth (est &&& (2 ^ m_n - 1)) ((m_self:Nat):Int)):Nat):Int),.int .u16 (((wth 0 ((m_self:Nat):Int)):Nat):Int),.slice (some ⟨g99,0,none⟩) 1 1,.bool false]) rfl rfl (fun w hs => (bl81 (ps:=[(0,.agg #[.int .u64 ((((m_high + 1) % 18446744073709551616):Nat):Int),.int .i64 ((m_self:Nat):Int),.int .u16 (((wth (est &&& (2 ^ m_n - 1)) ((m_self:Nat):Int)):Nat):Int)]),(1,.int .u16 (((wth 0 ((m_self:Nat):Int)):Nat):Int)),(2,.slice (some ⟨g99,0,none⟩) 1 1)]) (.cons (.tmp rfl rfl) (.cons (.tmp rfl rfl) (.cons (.tmp rfl rfl) Evp.nil))) rfl)) ?_
 refine u_two ?_ ?_
 refine u_eff (k:=13) rfl ?_
 refine st_m (m_box (cs:=[.int .u64 ((((m_high + 1) % 18446744073709551616):Nat):Int),.int .i64 ((m_self:Nat):Int),.int .u16 (((wth (est &&& (2 ^ m_n - 1)) ((m_self:Nat):Int)):Nat):Int),.int .u16 (((wth 0 ((m_self:Nat):Int)):Nat):Int),.slice (some ⟨g99,0,none⟩) 1 1,.bool false]) hs102 (v:=.agg #[.int .u64 ((((m_high + 1) % 18446744073709551616):Nat):Int),.int .i64 ((m_self:Nat):Int),.int .u16 (((wth (est &&& (2 ^ m_n - 1)) ((m_self:Nat):Int)):Nat):Int),.int .u16 (((wth 0 ((m_self:Nat):Int)):Nat):Int),.slice (some ⟨g99,0,none⟩) 1 1,.bool false]) (.tmp rfl rfl) rfl) ?_
 rintro _ w104 ⟨g103,rfl,hs106⟩
 refine u_on (S':=fun u => St H u (obj g103 81 [.int .u64 ((((m_high + 1) % 18446744073709551616):Nat):Int),.int .i64 ((m_self:Nat):Int),.int .u16 (((wth (est &&& (2 ^ m_n - 1)) ((m_self:Nat):Int)):Nat):Int),.int .u16 (((wth 0 ((m_self:Nat):Int)):Nat):Int),.slice (some ⟨g99,0,none⟩) 1 1,.bool false]::obj g99 37 (clState sx A6 n7 c8)::obj g88 39 [.int .u64 ((((m_high + 1) % 18446744073709551616):Nat):Int),.int .i64 ((m_self:Nat):Int),.int .u16 (((wth (est &&& (2 ^ m_n - 1)) ((m_self:Nat):Int)):Nat):Int)]::obj g_m 78 ((.int .i64 ((m_n:Nat):Int))::(.int .i64 ((m_self:Nat):Int))::(.int .u64 ((m_cur.ID.N:Nat):Int))::(.int .i64 m_cur.ID.P)::(.int .u16 ((m_cur.Set:Nat):Int))::(.int .u64 ((m_prom.N:Nat):Int))::(.int .i64 m_prom.P)::(.int .u64 ((((m_high + 1) % 18446744073709551616):Nat):Int))::(.pointer (some ⟨gp_m,0,none⟩))::(.slice A_m jn_m jc_m)::oCells m_os)::obj g10 37 (clState sx A6 n7 c8)::obj gp_m 81 (clProp p_m sv_m)::row 37 4 sv_m p_m.states.length sc_m::L)) (fun u hu => hu.drop) (fun u hu => (hu.drop.drop.p1).drop) hs106 ?_
 refine u_eff (k:=16) rfl ?_
 have hs107:=hs106.p3
 refine st_m0 (sto34 (cs':=((.int .i64 ((m_n:Nat):Int))::(.int .i64 ((m_self:Nat):Int))::(.int .u64 ((m_cur.ID.N:Nat):Int))::(.int .i64 m_cur.ID.P)::(.int .u16 ((m_cur.Set:Nat):Int))::(.int .u64 ((((m_high + 1) % 18446744073709551616):Nat):Int))::(.int .i64 ((m_self:Nat):Int))::(.int .u64 ((((m_high + 1) % 18446744073709551616):Nat):Int))::(.pointer (some ⟨gp_m,0,none⟩))::(.slice A_m jn_m jc_m)::oCells m_os)) (i:=0 + 5) hs107 (v:=.agg #[.int .u64 ((((m_high + 1) % 18446744073709551616):Nat):Int),.int .i64 ((m_self:Nat):Int)]) (.tmp rfl rfl) (.tmp rfl rfl) rfl (Nat.le_of_ble_eq_true rfl) (oneA rfl) rfl) ?_
 rintro w108 hs110
 refine u_new (S':=fun u => St H u (obj g_m 78 ((.int .i64 ((m_n:Nat):Int))::(.int .i64 ((m_self:Nat):Int))::(.int .u64 ((m_cur.ID.N:Nat):Int))::(.int .i64 m_cur.ID.P)::(.int .u16 ((m_cur.Set:Nat):Int))::(.int .u64 ((((m_high + 1) % 18446744073709551616):Nat):Int))::(.int .i64 ((m_self:Nat):Int))::(.int .u64 ((((m_high + 1) % 18446744073709551616):Nat):Int))::(.pointer (some ⟨gp_m,0,none⟩))::(.slice A_m jn_m jc_m)::oCells m_os)::obj g103 81 [.int .u64 ((((m_high + 1) % 18446744073709551616):Nat):Int),.int .i64 ((m_self:Nat):Int),.int .u16 (((wth (est &&& (2 ^ m_n - 1)) ((m_self:Nat):Int)):Nat):Int),.int .u16 (((wth 0 ((m_self:Nat):Int)):Nat):Int),.slice (some ⟨g99,0,none⟩) 1 1,.bool false]::obj g99 37 (clState sx A6 n7 c8)::obj g88 39 [.int .u64 ((((m_high + 1) % 18446744073709551616):Nat):Int),.int .i64 ((m_self:Nat):Int),.int .u16 (((wth (est &&& (2 ^ m_n - 1)) ((m_self:Nat):Int)):Nat):Int)]::obj g10 37 (clState sx A6 n7 c8)::obj gp_m 81 (clProp p_m sv_m)::row 37 4 sv_m p_m.states.length sc_m::L)) rfl (fun u hu => hu.drop.drop.drop) hs110 ?_
 refine u_st (k:=17) (v:=.pointer (some ⟨g_m,0,none⟩)) rfl rfl (fun w hs => (x_nilCheck (.tmp rfl rfl))) ?_
 refine u_st (k:=18) (v:=.pointer (some ⟨g_m,0 + 8,none⟩)) rfl rfl (fun w hs => (fa78_5 (.tmp rfl rfl))) ?_
 refine u_eff (k:=19) rfl ?_
 refine st_m0 (sto75 (cs':=((.int .i64 ((m_n:Nat):Int))::(.int .i64 ((m_self:Nat):Int))::(.int .u64 ((m_cur.ID.N:Nat):Int))::(.int .i64 m_cur.ID.P)::(.int .u16 ((m_cur.Set:Nat):Int))::(.int .u64 ((((m_high + 1) % 18446744073709551616):Nat):Int))::(.int .i64 ((m_self:Nat):Int))::(.int .u64 ((((m_high + 1) % 18446744073709551616):Nat):Int))::(.pointer (some ⟨g103,0,none⟩))::(.slice A_m jn_m jc_m)::oCells m_os)) (i:=0 + 8) hs110 (v:=.pointer (some ⟨g103,0,none⟩)) (.tmp rfl rfl) (.tmp rfl rfl) rfl (Nat.le_of_ble_eq_true rfl) one1 rfl) ?_
 rintro w111 hs113
 refine u_new (S':=fun u => St H u (obj g_m 78 ((.int .i64 ((m_n:Nat):Int))::(.int .i64 ((m_self:Nat):Int))::(.int .u64 ((m_cur.ID.N:Nat):Int))::(.int .i64 m_cur.ID.P)::(.int .u16 ((m_cur.Set:Nat):Int))::(.int .u64 ((((m_high + 1) % 18446744073709551616):Nat):Int))::(.int .i64 ((m_self:Nat):Int))::(.int .u64 ((((m_high + 1) % 18446744073709551616):Nat):Int))::(.pointer (some ⟨g103,0,none⟩))::(.slice A_m jn_m jc_m)::oCells m_os)::obj g103 81 [.int .u64 ((((m_high + 1) % 18446744073709551616):Nat):Int),.int .i64 ((m_self:Nat):Int),.int .u16 (((wth (est &&& (2 ^ m_n - 1)) ((m_self:Nat):Int)):Nat):Int),.int .u16 (((wth 0 ((m_self:Nat):Int)):Nat):Int),.slice (some ⟨g99,0,none⟩) 1 1,.bool false]::obj g99 37 (clState sx A6 n7 c8)::obj g88 39 [.int .u64 ((((m_high + 1) % 18446744073709551616):Nat):Int),.int .i64 ((m_self:Nat):Int),.int .u16 (((wth (est &&& (2 ^ m_n - 1)) ((m_self:Nat):Int)):Nat):Int)]::obj g10 37 (clState sx A6 n7 c8)::obj gp_m 81 (clProp p_m sv_m)::row 37 4 sv_m p_m.states.length sc_m::L)) rfl (fun u hu => hu.drop.drop.drop) hs113 ?_
 refine u_nil ?_
 refine n_then (c_seq (c_region (st (v:=.pointer (some ⟨g_m,0,none⟩)) (x_move (.tmp rfl hρ76)) ?_)))
 have hs114:=hs113.p2
 have hr119:kState.rep H sx [.int .u64 ((sx.V.N:Nat):Int),.int .i64 sx.V.P,.int .i64 sx.Floor,.slice A6 n7 c8]:=⟨A6,n7,c8,rfl,b1,⟨b2,b3⟩,⟨b4,b5⟩,hl9⟩
 obtain ⟨hs116,ok117⟩:=hs114.rowOfObj (n:=1) (size:=kState.sz) rfl (by decide)
 have hk118:kState.toKn.rows H [sx] [.int .u64 ((sx.V.N:Nat):Int),.int .i64 sx.V.P,.int .i64 sx.Floor,.slice A6 n7 c8]:=Kn.rows_one hr119
 have:([sx]:List GState).length = 1:=rfl
 have hs120:St H _ (row 37 4 (.slice (some ⟨g99,0,none⟩) 1 1) (([sx]:List GState).length) [.int .u64 ((sx.V.N:Nat):Int),.int .i64 sx.V.P,.int .i64 sx.Floor,.slice A6 n7 c8]::obj g_m 78 ((.int .i64 ((m_n:Nat):Int))::(.int .i64 ((m_self:Nat):Int))::(.int .u64 ((m_cur.ID.N:Nat):Int))::(.int .i64 m_cur.ID.P)::(.int .u16 ((m_cur.Set:Nat):Int))::(.int .u64 ((((m_high + 1) % 18446744073709551616):Nat):Int))::(.int .i64 ((m_self:Nat):Int))::(.int .u64 ((((m_high + 1) % 18446744073709551616):Nat):Int))::(.pointer (some ⟨g103,0,none⟩))::(.slice A_m jn_m jc_m)::oCells m_os)::obj g103 81 [.int .u64 ((((m_high + 1) % 18446744073709551616):Nat):Int),.int .i64 ((m_self:Nat):Int),.int .u16 (((wth (est &&& (2 ^ m_n - 1)) ((m_self:Nat):Int)):Nat):Int),.int .u16 (((wth 0 ((m_self:Nat):Int)):Nat):Int),.slice (some ⟨g99,0,none⟩) 1 1,.bool false]::obj g88 39 [.int .u64 ((((m_high + 1) % 18446744073709551616):Nat):Int),.int .i64 ((m_self:Nat):Int),.int .u16 (((wth (est &&& (2 ^ m_n - 1)) ((m_self:Nat):Int)):Nat):Int)]::obj g10 37 (clState sx A6 n7 c8)::obj gp_m 81 (clProp p_m sv_m)::row 37 4 sv_m p_m.states.length sc_m::L):=hs116
 have hs121:=hs120.p2
 have hs122:=hs121.p2
 have okm123:MemB H m_n m_self m_cur (GViewID.mk ((m_high + 1) % 18446744073709551616) ((m_self:Nat):Int)) ((m_high + 1) % 18446744073709551616) A_m jn_m jc_m m_jl m_os:=⟨hn1_m,hn16_m,hsf_m,⟨ok_m.cur.n,ok_m.cur.p⟩,ok_m.set,⟨(Nat.mod_lt _ (by decide)),(show IB ((m_self:Nat):Int) from ⟨by omega,by omega⟩)⟩,(Nat.mod_lt _ (by decide)),ok_m.joined,ok_m.len,ok_m.oth⟩
 have okp124:PropOk H (GProp.mk (GView.mk (GViewID.mk ((m_high + 1) % 18446744073709551616) ((m_self:Nat):Int)) (wth (est &&& (2 ^ m_n - 1)) ((m_self:Nat):Int))) (wth 0 ((m_self:Nat):Int)) ([sx]:List GState) false) (.slice (some ⟨g99,0,none⟩) 1 1) [.int .u64 ((sx.V.N:Nat):Int),.int .i64 sx.V.P,.int .i64 sx.Floor,.slice A6 n7 c8]:=⟨⟨(Nat.mod_lt _ (by decide)),(show IB ((m_self:Nat):Int) from ⟨by omega,by omega⟩)⟩,(wth_lt hb15 ((m_self:Nat):Int)),(wth_lt (by decide) ((m_self:Nat):Int)),ok117,hk118⟩
 refine st_c cb27 .func (evs1 (.tmp rfl rfl)) (agree_S hs122 (p_m:=(GProp.mk (GView.mk (GViewID.mk ((m_high + 1) % 18446744073709551616) ((m_self:Nat):Int)) (wth (est &&& (2 ^ m_n - 1)) ((m_self:Nat):Int))) (wth 0 ((m_self:Nat):Int)) ([sx]:List GState) false)) (m_n:=m_n) (m_self:=m_self) (m_cur:=m_cur) (m_prom:=(GViewID.mk ((m_high + 1) % 18446744073709551616) ((m_self:Nat):Int))) (m_high:=((m_high + 1) % 18446744073709551616)) (m_jl:=m_jl) (m_os:=m_os) okm123 okp124 (by simp) (fun s hs => by rw [List.mem_singleton.1 hs]; exact hfl)) ?_
 rintro e w125 ⟨H127,iv129,cz132,jz133,A134,jn135,jc136,pz138,sv139,sc140,hle128,rfl,hin130,okm131,hkp137,hme141,hs126⟩
 refine ⟨_,rfl,?_⟩
 refine st (v:=iv129) (x_assign (.tmp rfl rfl)) ?_
 refine c_nil (n_then (c_seq (c_region (st (v:=iv129) (x_move (.tmp rfl rfl)) ?_))))
 rcases InstAt.cases hin130 with ⟨hX145,rfl⟩ | ⟨yi142,gi143,ci144,hX145,rfl,hrd146,hrp147⟩
 refine st (v:=.bool false) (x_neqP Tryd.underlying28 (.tmp rfl rfl) .const rfl) ?_
 refine c_nil (n_then (c_cond_f (t:=false) (.tmp rfl rfl) rfl ?_))
 refine c_skip (n_then (c_seq (c_region (st (v:=.pointer (some ⟨g_m,0,none⟩)) (x_move (.tmp rfl hρ76)) ?_))))
 have hs149:=hs126.p2
 have hs150:=hs149.p2
 have hs151:=hs150.p2
 have okm152:MemB H127 m_n m_self cz132 (GViewID.mk ((m_high + 1) % 18446744073709551616) ((m_self:Nat):Int)) ((m_high + 1) % 18446744073709551616) A134 jn135 jc136 jz133 m_os:=⟨hn1_m,hn16_m,hsf_m,⟨okm131.cur.n,okm131.cur.p⟩,okm131.set,⟨okm131.prom.n,okm131.prom.p⟩,okm131.high,okm131.joined,okm131.len,okm131.oth⟩
 have okp153:PropOk H127 pz138 sv139 sc140:=⟨⟨hkp137.id.n,hkp137.id.p⟩,hkp137.set,hkp137.who,hkp137.ok,hkp137.hk⟩
 refine st_c cb28 .func (evs1 (.tmp rfl rfl)) (again_S hs151 (p_m:=pz138) (m_n:=m_n) (m_self:=m_self) (m_cur:=cz132) (m_prom:=(GViewID.mk ((m_high + 1) % 18446744073709551616) ((m_self:Nat):Int))) (m_high:=((m_high + 1) % 18446744073709551616)) (m_jl:=jz133) (m_os:=m_os) okm152 okp153 (htab.mono hle128)) ?_
 rintro e w154 ⟨v156,cs159,rfl,ok157,hk160,hs155⟩
 refine ⟨_,rfl,?_⟩
 refine st (v:=v156) (x_assign (.tmp rfl rfl)) ?_
 refine st (v:=.pointer none) (x_assign .const) ?_
 refine c_nil (n_then (c_ret (leave_ret (res_two (v:=v156) (u:=.pointer none) rfl (.mk rfl rfl) (.mk rfl rfl)) ?_)))
 have hpq:(MB.tick (MB.mk m_n m_self m_cur m_prom m_high (some p_m) m_jl m_os) est sx) = _:=tick_wait rfl hc81 hme141 hX145 rfl
 rw [hpq]
 have okm161:MemB H127 m_n m_self cz132 (GViewID.mk ((m_high + 1) % 18446744073709551616) ((m_self:Nat):Int)) ((m_high + 1) % 18446744073709551616) A134 jn135 jc136 jz133 m_os:=⟨hn1_m,hn16_m,hsf_m,⟨okm131.cur.n,okm131.cur.p⟩,okm131.set,⟨okm131.prom.n,okm131.prom.p⟩,okm131.high,okm131.joined,okm131.len,okm131.oth⟩
 have hs162:=hs155.p3
 have hs163:=hs162.p3
 have okp164:PropOk H127 pz138 sv139 sc140:=⟨⟨hkp137.id.n,hkp137.id.p⟩,hkp137.set,hkp137.who,hkp137.ok,hkp137.hk⟩
 have hs165:=hs163.p3
 have hs166:St H127 _ (row 53 16 v156 ((MB.again (MB.mk m_n m_self cz132 (GViewID.mk ((m_high + 1) % 18446744073709551616) ((m_self:Nat):Int)) ((m_high + 1) % 18446744073709551616) (some pz138) jz133 m_os)).length) cs159::obj g88 39 [.int .u64 ((((m_high + 1) % 18446744073709551616):Nat):Int),.int .i64 ((m_self:Nat):Int),.int .u16 (((wth (est &&& (2 ^ m_n - 1)) ((m_self:Nat):Int)):Nat):Int)]::obj g10 37 (clState sx A6 n7 c8)::obj gp_m 81 (clProp p_m sv_m)::row 37 4 sv_m p_m.states.length sc_m::memR 78 81 37 g_m g103 A134 jn135 jc136 sv139 sc140 (MB.mk m_n m_self cz132 (GViewID.mk ((m_high + 1) % 18446744073709551616) ((m_self:Nat):Int)) ((m_high + 1) % 18446744073709551616) (some pz138) jz133 m_os) ++ (L)):=St.foldS (TP:=81) (TS:=37) (gp:=g103) (sv:=sv139) (sc:=sc140) [row 53 16 v156 ((MB.again (MB.mk m_n m_self cz132 (GViewID.mk ((m_high + 1) % 18446744073709551616) ((m_self:Nat):Int)) ((m_high + 1) % 18446744073709551616) (some pz138) jz133 m_os)).length) cs159,obj g88 39 [.int .u64 ((((m_high + 1) % 18446744073709551616):Nat):Int),.int .i64 ((m_self:Nat):Int),.int .u16 (((wth (est &&& (2 ^ m_n - 1)) ((m_self:Nat):Int)):Nat):Int)],obj g10 37 (clState sx A6 n7 c8),obj gp_m 81 (clProp p_m sv_m),row 37 4 sv_m p_m.states.length sc_m] hs165
 exact ⟨H127,v156,cs159,(.pointer none),(MB.mk m_n m_self cz132 (GViewID.mk ((m_high + 1) % 18446744073709551616) ((m_self:Nat):Int)) ((m_high + 1) % 18446744073709551616) (some pz138) jz133 m_os),g103,A134,jn135,jc136,sv139,sc140,hle128,rfl,ok157,hk160,InstAt.none',(okm161.okS okp164),rfl,((((hs166.p1).drop.p1).drop.p1).drop.p1).drop⟩
 obtain ⟨A171,n172,c173,rfl,b167,⟨b168,b169⟩,b170,hl174⟩:=hrp147
 have:=hl174.len; have:n172 * 48 ≤ 140737488351232:=hl174.bnd; have:=hl174.le
 have hat148:∀ {w:World} {L:List Res},St H127 w L → At w ⟨gi143,0,none⟩ [.int .u64 ((yi142.View.ID.N:Nat):Int),.int .i64 yi142.View.ID.P,.int .u16 ((yi142.View.Set:Nat):Int),.slice A171 n172 c173]:=fun h => hrd146.hat h
 refine st (v:=.bool true) (x_neqP Tryd.underlying28 (.tmp rfl rfl) .const rfl) ?_
 refine c_nil (n_then (c_cond_t (t:=true) (.tmp rfl rfl) rfl ?_))
 refine c_seq (c_region (st (v:=.pointer (some ⟨gi143,0,none⟩)) (x_move (.tmp rfl rfl)) ?_))
 refine st (v:=.slice none 0 0) (x_assign .const) ?_
 refine st (v:=.pointer (some ⟨gi143,0,none⟩)) (x_assign (.tmp rfl rfl)) ?_
 refine c_nil (n_then (c_ret (r_then (leave_ret (res_two (v:=.slice none 0 0) (u:=.pointer (some ⟨gi143,0,none⟩)) rfl (.mk rfl rfl) (.mk rfl rfl)) ?_))))
 have hpq:(MB.tick (MB.mk m_n m_self m_cur m_prom m_high (some p_m) m_jl m_os) est sx) = _:=tick_done rfl hc81 hme141 hX145 rfl
 rw [hpq]
 have hs175:=hs126.krowNil 53 kOut
 have okm177:MemB H127 m_n m_self cz132 (GViewID.mk ((m_high + 1) % 18446744073709551616) ((m_self:Nat):Int)) ((m_high + 1) % 18446744073709551616) A134 jn135 jc136 jz133 m_os:=⟨hn1_m,hn16_m,hsf_m,⟨okm131.cur.n,okm131.cur.p⟩,okm131.set,⟨okm131.prom.n,okm131.prom.p⟩,okm131.high,okm131.joined,okm131.len,okm131.oth⟩
 have hs178:=hs175.p3
 have hs179:=hs178.p3
 have okp180:PropOk H127 pz138 sv139 sc140:=⟨⟨hkp137.id.n,hkp137.id.p⟩,hkp137.set,hkp137.who,hkp137.ok,hkp137.hk⟩
 have hs181:=hs179.p3
 have hs182:St H127 _ (row 53 16 (.slice none 0 0) (([]:List GOut).length) []::obj g88 39 [.int .u64 ((((m_high + 1) % 18446744073709551616):Nat):Int),.int .i64 ((m_self:Nat):Int),.int .u16 (((wth (est &&& (2 ^ m_n - 1)) ((m_self:Nat):Int)):Nat):Int)]::obj g10 37 (clState sx A6 n7 c8)::obj gp_m 81 (clProp p_m sv_m)::row 37 4 sv_m p_m.states.length sc_m::memR 78 81 37 g_m g103 A134 jn135 jc136 sv139 sc140 (MB.mk m_n m_self cz132 (GViewID.mk ((m_high + 1) % 18446744073709551616) ((m_self:Nat):Int)) ((m_high + 1) % 18446744073709551616) (some pz138) jz133 m_os) ++ (L)):=St.foldS (TP:=81) (TS:=37) (gp:=g103) (sv:=sv139) (sc:=sc140) [row 53 16 (.slice none 0 0) (([]:List GOut).length) [],obj g88 39 [.int .u64 ((((m_high + 1) % 18446744073709551616):Nat):Int),.int .i64 ((m_self:Nat):Int),.int .u16 (((wth (est &&& (2 ^ m_n - 1)) ((m_self:Nat):Int)):Nat):Int)],obj g10 37 (clState sx A6 n7 c8),obj gp_m 81 (clProp p_m sv_m),row 37 4 sv_m p_m.states.length sc_m] hs181
 exact ⟨H127,(.slice none 0 0),[],.pointer (some ⟨gi143,0,none⟩),(MB.mk m_n m_self cz132 (GViewID.mk ((m_high + 1) % 18446744073709551616) ((m_self:Nat):Int)) ((m_high + 1) % 18446744073709551616) (some pz138) jz133 m_os),g103,A134,jn135,jc136,sv139,sc140,hle128,rfl,(RowOk.knil kOut),(Kn.rows_nil _ _),(InstAt.some_of rfl hrd146 ⟨A171,n172,c173,rfl,b167,⟨b168,b169⟩,b170,hl174⟩),(okm177.okS okp180),rfl,((((hs182.p1).drop.p1).drop.p1).drop.p1).drop⟩
 refine u_eff (k:=16) rfl ?_
 have hs183:=hs102.p2
 refine st_m0 (sto34 (cs':=((.int .i64 ((m_n:Nat):Int))::(.int .i64 ((m_self:Nat):Int))::(.int .u64 ((m_cur.ID.N:Nat):Int))::(.int .i64 m_cur.ID.P)::(.int .u16 ((m_cur.Set:Nat):Int))::(.int .u64 ((((m_high + 1) % 18446744073709551616):Nat):Int))::(.int .i64 ((m_self:Nat):Int))::(.int .u64 ((((m_high + 1) % 18446744073709551616):Nat):Int))::(.pointer (some ⟨gp_m,0,none⟩))::(.slice A_m jn_m jc_m)::oCells m_os)) (i:=0 + 5) hs183 (v:=.agg #[.int .u64 ((((m_high + 1) % 18446744073709551616):Nat):Int),.int .i64 ((m_self:Nat):Int)]) (.tmp rfl rfl) (.tmp rfl rfl) rfl (Nat.le_of_ble_eq_true rfl) (oneA rfl) rfl) ?_
 rintro w184 hs186
 refine u_new (S':=fun u => St H u (obj g_m 78 ((.int .i64 ((m_n:Nat):Int))::(.int .i64 ((m_self:Nat):Int))::(.int .u64 ((m_cur.ID.N:Nat):Int))::(.int .i64 m_cur.ID.P)::(.int .u16 ((m_cur.Set:Nat):Int))::(.int .u64 ((((m_high + 1) % 18446744073709551616):Nat):Int))::(.int .i64 ((m_self:Nat):Int))::(.int .u64 ((((m_high + 1) % 18446744073709551616):Nat):Int))::(.pointer (some ⟨gp_m,0,none⟩))::(.slice A_m jn_m jc_m)::oCells m_os)::obj g99 37 (clState sx A6 n7 c8)::obj g88 39 [.int .u64 ((((m_high + 1) % 18446744073709551616):Nat):Int),.int .i64 ((m_self:Nat):Int),.int .u16 (((wth (est &&& (2 ^ m_n - 1)) ((m_self:Nat):Int)):Nat):Int)]::obj g10 37 (clState sx A6 n7 c8)::obj gp_m 81 (clProp p_m sv_m)::row 37 4 sv_m p_m.states.length sc_m::L)) rfl (fun u hu => hu.drop.drop) hs186 ?_
 refine u_eff (k:=13) rfl ?_
 refine st_m (m_box (cs:=[.int .u64 ((((m_high + 1) % 18446744073709551616):Nat):Int),.int .i64 ((m_self:Nat):Int),.int .u16 (((wth (est &&& (2 ^ m_n - 1)) ((m_self:Nat):Int)):Nat):Int),.int .u16 (((wth 0 ((m_self:Nat):Int)):Nat):Int),.slice (some ⟨g99,0,none⟩) 1 1,.bool false]) hs186 (v:=.agg #[.int .u64 ((((m_high + 1) % 18446744073709551616):Nat):Int),.int .i64 ((m_self:Nat):Int),.int .u16 (((wth (est &&& (2 ^ m_n - 1)) ((m_self:Nat):Int)):Nat):Int),.int .u16 (((wth 0 ((m_self:Nat):Int)):Nat):Int),.slice (some ⟨g99,0,none⟩) 1 1,.bool false]) (.tmp rfl rfl) rfl) ?_
 rintro _ w188 ⟨g187,rfl,hs190⟩
 refine u_on (S':=fun u => St H u (obj g187 81 [.int .u64 ((((m_high + 1) % 18446744073709551616):Nat):Int),.int .i64 ((m_self:Nat):Int),.int .u16 (((wth (est &&& (2 ^ m_n - 1)) ((m_self:Nat):Int)):Nat):Int),.int .u16 (((wth 0 ((m_self:Nat):Int)):Nat):Int),.slice (some ⟨g99,0,none⟩) 1 1,.bool false]::obj g_m 78 ((.int .i64 ((m_n:Nat):Int))::(.int .i64 ((m_self:Nat):Int))::(.int .u64 ((m_cur.ID.N:Nat):Int))::(.int .i64 m_cur.ID.P)::(.int .u16 ((m_cur.Set:Nat):Int))::(.int .u64 ((((m_high + 1) % 18446744073709551616):Nat):Int))::(.int .i64 ((m_self:Nat):Int))::(.int .u64 ((((m_high + 1) % 18446744073709551616):Nat):Int))::(.pointer (some ⟨gp_m,0,none⟩))::(.slice A_m jn_m jc_m)::oCells m_os)::obj g99 37 (clState sx A6 n7 c8)::obj g88 39 [.int .u64 ((((m_high + 1) % 18446744073709551616):Nat):Int),.int .i64 ((m_self:Nat):Int),.int .u16 (((wth (est &&& (2 ^ m_n - 1)) ((m_self:Nat):Int)):Nat):Int)]::obj g10 37 (clState sx A6 n7 c8)::obj gp_m 81 (clProp p_m sv_m)::row 37 4 sv_m p_m.states.length sc_m::L)) (fun u hu => hu.drop) (fun u hu => hu.drop.drop.drop) hs190 ?_
 refine u_st (k:=17) (v:=.pointer (some ⟨g_m,0,none⟩)) rfl rfl (fun w hs => (x_nilCheck (.tmp rfl rfl))) ?_
 refine u_st (k:=18) (v:=.pointer (some ⟨g_m,0 + 8,none⟩)) rfl rfl (fun w hs => (fa78_5 (.tmp rfl rfl))) ?_
 refine u_eff (k:=19) rfl ?_
 have hs191:=hs190.p1
 refine st_m0 (sto75 (cs':=((.int .i64 ((m_n:Nat):Int))::(.int .i64 ((m_self:Nat):Int))::(.int .u64 ((m_cur.ID.N:Nat):Int))::(.int .i64 m_cur.ID.P)::(.int .u16 ((m_cur.Set:Nat):Int))::(.int .u64 ((((m_high + 1) % 18446744073709551616):Nat):Int))::(.int .i64 ((m_self:Nat):Int))::(.int .u64 ((((m_high + 1) % 18446744073709551616):Nat):Int))::(.pointer (some ⟨g187,0,none⟩))::(.slice A_m jn_m jc_m)::oCells m_os)) (i:=0 + 8) hs191 (v:=.pointer (some ⟨g187,0,none⟩)) (.tmp rfl rfl) (.tmp rfl rfl) rfl (Nat.le_of_ble_eq_true rfl) one1 rfl) ?_
 rintro w192 hs194
 refine u_new (S':=fun u => St H u (obj g_m 78 ((.int .i64 ((m_n:Nat):Int))::(.int .i64 ((m_self:Nat):Int))::(.int .u64 ((m_cur.ID.N:Nat):Int))::(.int .i64 m_cur.ID.P)::(.int .u16 ((m_cur.Set:Nat):Int))::(.int .u64 ((((m_high + 1) % 18446744073709551616):Nat):Int))::(.int .i64 ((m_self:Nat):Int))::(.int .u64 ((((m_high + 1) % 18446744073709551616):Nat):Int))::(.pointer (some ⟨g187,0,none⟩))::(.slice A_m jn_m jc_m)::oCells m_os)::obj g187 81 [.int .u64 ((((m_high + 1) % 18446744073709551616):Nat):Int),.int .i64 ((m_self:Nat):Int),.int .u16 (((wth (est &&& (2 ^ m_n - 1)) ((m_self:Nat):Int)):Nat):Int),.int .u16 (((wth 0 ((m_self:Nat):Int)):Nat):Int),.slice (some ⟨g99,0,none⟩) 1 1,.bool false]::obj g99 37 (clState sx A6 n7 c8)::obj g88 39 [.int .u64 ((((m_high + 1) % 18446744073709551616):Nat):Int),.int .i64 ((m_self:Nat):Int),.int .u16 (((wth (est &&& (2 ^ m_n - 1)) ((m_self:Nat):Int)):Nat):Int)]::obj g10 37 (clState sx A6 n7 c8)::obj gp_m 81 (clProp p_m sv_m)::row 37 4 sv_m p_m.states.length sc_m::L)) rfl (fun u hu => hu.drop.drop.drop) hs194 ?_
 refine u_nil ?_
 refine n_then (c_seq (c_region (st (v:=.pointer (some ⟨g_m,0,none⟩)) (x_move (.tmp rfl hρ76)) ?_)))
 have hs195:=hs194.p2
 have hr200:kState.rep H sx [.int .u64 ((sx.V.N:Nat):Int),.int .i64 sx.V.P,.int .i64 sx.Floor,.slice A6 n7 c8]:=⟨A6,n7,c8,rfl,b1,⟨b2,b3⟩,⟨b4,b5⟩,hl9⟩
 obtain ⟨hs197,ok198⟩:=hs195.rowOfObj (n:=1) (size:=kState.sz) rfl (by decide)
 have hk199:kState.toKn.rows H [sx] [.int .u64 ((sx.V.N:Nat):Int),.int .i64 sx.V.P,.int .i64 sx.Floor,.slice A6 n7 c8]:=Kn.rows_one hr200
 have:([sx]:List GState).length = 1:=rfl
 have hs201:St H _ (row 37 4 (.slice (some ⟨g99,0,none⟩) 1 1) (([sx]:List GState).length) [.int .u64 ((sx.V.N:Nat):Int),.int .i64 sx.V.P,.int .i64 sx.Floor,.slice A6 n7 c8]::obj g_m 78 ((.int .i64 ((m_n:Nat):Int))::(.int .i64 ((m_self:Nat):Int))::(.int .u64 ((m_cur.ID.N:Nat):Int))::(.int .i64 m_cur.ID.P)::(.int .u16 ((m_cur.Set:Nat):Int))::(.int .u64 ((((m_high + 1) % 18446744073709551616):Nat):Int))::(.int .i64 ((m_self:Nat):Int))::(.int .u64 ((((m_high + 1) % 18446744073709551616):Nat):Int))::(.pointer (some ⟨g187,0,none⟩))::(.slice A_m jn_m jc_m)::oCells m_os)::obj g187 81 [.int .u64 ((((m_high + 1) % 18446744073709551616):Nat):Int),.int .i64 ((m_self:Nat):Int),.int .u16 (((wth (est &&& (2 ^ m_n - 1)) ((m_self:Nat):Int)):Nat):Int),.int .u16 (((wth 0 ((m_self:Nat):Int)):Nat):Int),.slice (some ⟨g99,0,none⟩) 1 1,.bool false]::obj g88 39 [.int .u64 ((((m_high + 1) % 18446744073709551616):Nat):Int),.int .i64 ((m_self:Nat):Int),.int .u16 (((wth (est &&& (2 ^ m_n - 1)) ((m_self:Nat):Int)):Nat):Int)]::obj g10 37 (clState sx A6 n7 c8)::obj gp_m 81 (clProp p_m sv_m)::row 37 4 sv_m p_m.states.length sc_m::L):=hs197
 have hs202:=hs201.p2
 have hs203:=hs202.p2
 have okm204:MemB H m_n m_self m_cur (GViewID.mk ((m_high + 1) % 18446744073709551616) ((m_self:Nat):Int)) ((m_high + 1) % 18446744073709551616) A_m jn_m jc_m m_jl m_os:=⟨hn1_m,hn16_m,hsf_m,⟨ok_m.cur.n,ok_m.cur.p⟩,ok_m.set,⟨(Nat.mod_lt _ (by decide)),(show IB ((m_self:Nat):Int) from ⟨by omega,by omega⟩)⟩,(Nat.mod_lt _ (by decide)),ok_m.joined,ok_m.len,ok_m.oth⟩
 have okp205:PropOk H (GProp.mk (GView.mk (GViewID.mk ((m_high + 1) % 18446744073709551616) ((m_self:Nat):Int)) (wth (est &&& (2 ^ m_n - 1)) ((m_self:Nat):Int))) (wth 0 ((m_self:Nat):Int)) ([sx]:List GState) false) (.slice (some ⟨g99,0,none⟩) 1 1) [.int .u64 ((sx.V.N:Nat):Int),.int .i64 sx.V.P,.int .i64 sx.Floor,.slice A6 n7 c8]:=⟨⟨(Nat.mod_lt _ (by decide)),(show IB ((m_self:Nat):Int) from ⟨by omega,by omega⟩)⟩,(wth_lt hb15 ((m_self:Nat):Int)),(wth_lt (by decide) ((m_self:Nat):Int)),ok198,hk199⟩
 refine st_c cb27 .func (evs1 (.tmp rfl rfl)) (agree_S hs203 (p_m:=(GProp.mk (GView.mk (GViewID.mk ((m_high + 1) % 18446744073709551616) ((m_self:Nat):Int)) (wth (est &&& (2 ^ m_n - 1)) ((m_self:Nat):Int))) (wth 0 ((m_self:Nat):Int)) ([sx]:List GState) false)) (m_n:=m_n) (m_self:=m_self) (m_cur:=m_cur) (m_prom:=(GViewID.mk ((m_high + 1) % 18446744073709551616) ((m_self:Nat):Int))) (m_high:=((m_high + 1) % 18446744073709551616)) (m_jl:=m_jl) (m_os:=m_os) okm204 okp205 (by simp) (fun s hs => by rw [List.mem_singleton.1 hs]; exact hfl)) ?_
 rintro e w206 ⟨H208,iv210,cz213,jz214,A215,jn216,jc217,pz219,sv220,sc221,hle209,rfl,hin211,okm212,hkp218,hme222,hs207⟩
 refine ⟨_,rfl,?_⟩
 refine st (v:=iv210) (x_assign (.tmp rfl rfl)) ?_
 refine c_nil (n_then (c_seq (c_region (st (v:=iv210) (x_move (.tmp rfl rfl)) ?_))))
 rcases InstAt.cases hin211 with ⟨hX226,rfl⟩ | ⟨yi223,gi224,ci225,hX226,rfl,hrd227,hrp228⟩
 refine st (v:=.bool false) (x_neqP Tryd.underlying28 (.tmp rfl rfl) .const rfl) ?_
 refine c_nil (n_then (c_cond_f (t:=false) (.tmp rfl rfl) rfl ?_))
 refine c_skip (n_then (c_seq (c_region (st (v:=.pointer (some ⟨g_m,0,none⟩)) (x_move (.tmp rfl hρ76)) ?_))))
 have hs230:=hs207.p2
 have hs231:=hs230.p2
 have hs232:=hs231.p2
 have okm233:MemB H208 m_n m_self cz213 (GViewID.mk ((m_high + 1) % 18446744073709551616) ((m_self:Nat):Int)) ((m_high + 1) % 18446744073709551616) A215 jn216 jc217 jz214 m_os:=⟨hn1_m,hn16_m,hsf_m,⟨okm212.cur.n,okm212.cur.p⟩,okm212.set,⟨okm212.prom.n,okm212.prom.p⟩,okm212.high,okm212.joined,okm212.len,okm212.oth⟩
 have okp234:PropOk H208 pz219 sv220 sc221:=⟨⟨hkp218.id.n,hkp218.id.p⟩,hkp218.set,hkp218.who,hkp218.ok,hkp218.hk⟩
 refine st_c cb28 .func (evs1 (.tmp rfl rfl)) (again_S hs232 (p_m:=pz219) (m_n:=m_n) (m_self:=m_self) (m_cur:=cz213) (m_prom:=(GViewID.mk ((m_high + 1) % 18446744073709551616) ((m_self:Nat):Int))) (m_high:=((m_high + 1) % 18446744073709551616)) (m_jl:=jz214) (m_os:=m_os) okm233 okp234 (htab.mono hle209)) ?_
 rintro e w235 ⟨v237,cs240,rfl,ok238,hk241,hs236⟩
 refine ⟨_,rfl,?_⟩
 refine st (v:=v237) (x_assign (.tmp rfl rfl)) ?_
 refine st (v:=.pointer none) (x_assign .const) ?_
 refine c_nil (n_then (c_ret (leave_ret (res_two (v:=v237) (u:=.pointer none) rfl (.mk rfl rfl) (.mk rfl rfl)) ?_)))
 have hpq:(MB.tick (MB.mk m_n m_self m_cur m_prom m_high (some p_m) m_jl m_os) est sx) = _:=tick_wait rfl hc81 hme222 hX226 rfl
 rw [hpq]
 have okm242:MemB H208 m_n m_self cz213 (GViewID.mk ((m_high + 1) % 18446744073709551616) ((m_self:Nat):Int)) ((m_high + 1) % 18446744073709551616) A215 jn216 jc217 jz214 m_os:=⟨hn1_m,hn16_m,hsf_m,⟨okm212.cur.n,okm212.cur.p⟩,okm212.set,⟨okm212.prom.n,okm212.prom.p⟩,okm212.high,okm212.joined,okm212.len,okm212.oth⟩
 have hs243:=hs236.p3
 have hs244:=hs243.p3
 have okp245:PropOk H208 pz219 sv220 sc221:=⟨⟨hkp218.id.n,hkp218.id.p⟩,hkp218.set,hkp218.who,hkp218.ok,hkp218.hk⟩
 have hs246:=hs244.p3
 have hs247:St H208 _ (row 53 16 v237 ((MB.again (MB.mk m_n m_self cz213 (GViewID.mk ((m_high + 1) % 18446744073709551616) ((m_self:Nat):Int)) ((m_high + 1) % 18446744073709551616) (some pz219) jz214 m_os)).length) cs240::obj g88 39 [.int .u64 ((((m_high + 1) % 18446744073709551616):Nat):Int),.int .i64 ((m_self:Nat):Int),.int .u16 (((wth (est &&& (2 ^ m_n - 1)) ((m_self:Nat):Int)):Nat):Int)]::obj g10 37 (clState sx A6 n7 c8)::obj gp_m 81 (clProp p_m sv_m)::row 37 4 sv_m p_m.states.length sc_m::memR 78 81 37 g_m g187 A215 jn216 jc217 sv220 sc221 (MB.mk m_n m_self cz213 (GViewID.mk ((m_high + 1) % 18446744073709551616) ((m_self:Nat):Int)) ((m_high + 1) % 18446744073709551616) (some pz219) jz214 m_os) ++ (L)):=St.foldS (TP:=81) (TS:=37) (gp:=g187) (sv:=sv220) (sc:=sc221) [row 53 16 v237 ((MB.again (MB.mk m_n m_self cz213 (GViewID.mk ((m_high + 1) % 18446744073709551616) ((m_self:Nat):Int)) ((m_high + 1) % 18446744073709551616) (some pz219) jz214 m_os)).length) cs240,obj g88 39 [.int .u64 ((((m_high + 1) % 18446744073709551616):Nat):Int),.int .i64 ((m_self:Nat):Int),.int .u16 (((wth (est &&& (2 ^ m_n - 1)) ((m_self:Nat):Int)):Nat):Int)],obj g10 37 (clState sx A6 n7 c8),obj gp_m 81 (clProp p_m sv_m),row 37 4 sv_m p_m.states.length sc_m] hs246
 exact ⟨H208,v237,cs240,(.pointer none),(MB.mk m_n m_self cz213 (GViewID.mk ((m_high + 1) % 18446744073709551616) ((m_self:Nat):Int)) ((m_high + 1) % 18446744073709551616) (some pz219) jz214 m_os),g187,A215,jn216,jc217,sv220,sc221,hle209,rfl,ok238,hk241,InstAt.none',(okm242.okS okp245),rfl,((((hs247.p1).drop.p1).drop.p1).drop.p1).drop⟩
 obtain ⟨A252,n253,c254,rfl,b248,⟨b249,b250⟩,b251,hl255⟩:=hrp228
 have:=hl255.len; have:n253 * 48 ≤ 140737488351232:=hl255.bnd; have:=hl255.le
 have hat229:∀ {w:World} {L:List Res},St H208 w L → At w ⟨gi224,0,none⟩ [.int .u64 ((yi223.View.ID.N:Nat):Int),.int .i64 yi223.View.ID.P,.int .u16 ((yi223.View.Set:Nat):Int),.slice A252 n253 c254]:=fun h => hrd227.hat h
 refine st (v:=.bool true) (x_neqP Tryd.underlying28 (.tmp rfl rfl) .const rfl) ?_
 refine c_nil (n_then (c_cond_t (t:=true) (.tmp rfl rfl) rfl ?_))
 refine c_seq (c_region (st (v:=.pointer (some ⟨gi224,0,none⟩)) (x_move (.tmp rfl rfl)) ?_))
 refine st (v:=.slice none 0 0) (x_assign .const) ?_
 refine st (v:=.pointer (some ⟨gi224,0,none⟩)) (x_assign (.tmp rfl rfl)) ?_
 refine c_nil (n_then (c_ret (r_then (leave_ret (res_two (v:=.slice none 0 0) (u:=.pointer (some ⟨gi224,0,none⟩)) rfl (.mk rfl rfl) (.mk rfl rfl)) ?_))))
 have hpq:(MB.tick (MB.mk m_n m_self m_cur m_prom m_high (some p_m) m_jl m_os) est sx) = _:=tick_done rfl hc81 hme222 hX226 rfl
 rw [hpq]
 have hs256:=hs207.krowNil 53 kOut
 have okm258:MemB H208 m_n m_self cz213 (GViewID.mk ((m_high + 1) % 18446744073709551616) ((m_self:Nat):Int)) ((m_high + 1) % 18446744073709551616) A215 jn216 jc217 jz214 m_os:=⟨hn1_m,hn16_m,hsf_m,⟨okm212.cur.n,okm212.cur.p⟩,okm212.set,⟨okm212.prom.n,okm212.prom.p⟩,okm212.high,okm212.joined,okm212.len,okm212.oth⟩
 have hs259:=hs256.p3
 have hs260:=hs259.p3
 have okp261:PropOk H208 pz219 sv220 sc221:=⟨⟨hkp218.id.n,hkp218.id.p⟩,hkp218.set,hkp218.who,hkp218.ok,hkp218.hk⟩
 have hs262:=hs260.p3
 have hs263:St H208 _ (row 53 16 (.slice none 0 0) (([]:List GOut).length) []::obj g88 39 [.int .u64 ((((m_high + 1) % 18446744073709551616):Nat):Int),.int .i64 ((m_self:Nat):Int),.int .u16 (((wth (est &&& (2 ^ m_n - 1)) ((m_self:Nat):Int)):Nat):Int)]::obj g10 37 (clState sx A6 n7 c8)::obj gp_m 81 (clProp p_m sv_m)::row 37 4 sv_m p_m.states.length sc_m::memR 78 81 37 g_m g187 A215 jn216 jc217 sv220 sc221 (MB.mk m_n m_self cz213 (GViewID.mk ((m_high + 1) % 18446744073709551616) ((m_self:Nat):Int)) ((m_high + 1) % 18446744073709551616) (some pz219) jz214 m_os) ++ (L)):=St.foldS (TP:=81) (TS:=37) (gp:=g187) (sv:=sv220) (sc:=sc221) [row 53 16 (.slice none 0 0) (([]:List GOut).length) [],obj g88 39 [.int .u64 ((((m_high + 1) % 18446744073709551616):Nat):Int),.int .i64 ((m_self:Nat):Int),.int .u16 (((wth (est &&& (2 ^ m_n - 1)) ((m_self:Nat):Int)):Nat):Int)],obj g10 37 (clState sx A6 n7 c8),obj gp_m 81 (clProp p_m sv_m),row 37 4 sv_m p_m.states.length sc_m] hs262
 exact ⟨H208,(.slice none 0 0),[],.pointer (some ⟨gi224,0,none⟩),(MB.mk m_n m_self cz213 (GViewID.mk ((m_high + 1) % 18446744073709551616) ((m_self:Nat):Int)) ((m_high + 1) % 18446744073709551616) (some pz219) jz214 m_os),g187,A215,jn216,jc217,sv220,sc221,hle209,rfl,(RowOk.knil kOut),(Kn.rows_nil _ _),(InstAt.some_of rfl hrd227 ⟨A252,n253,c254,rfl,b248,⟨b249,b250⟩,b251,hl255⟩),(okm258.okS okp261),rfl,((((hs263.p1).drop.p1).drop.p1).drop.p1).drop⟩
 refine u_eff (k:=16) rfl ?_
 have hs264:=hs98.p1
 refine st_m0 (sto34 (cs':=((.int .i64 ((m_n:Nat):Int))::(.int .i64 ((m_self:Nat):Int))::(.int .u64 ((m_cur.ID.N:Nat):Int))::(.int .i64 m_cur.ID.P)::(.int .u16 ((m_cur.Set:Nat):Int))::(.int .u64 ((((m_high + 1) % 18446744073709551616):Nat):Int))::(.int .i64 ((m_self:Nat):Int))::(.int .u64 ((((m_high + 1) % 18446744073709551616):Nat):Int))::(.pointer (some ⟨gp_m,0,none⟩))::(.slice A_m jn_m jc_m)::oCells m_os)) (i:=0 + 5) hs264 (v:=.agg #[.int .u64 ((((m_high + 1) % 18446744073709551616):Nat):Int),.int .i64 ((m_self:Nat):Int)]) (.tmp rfl rfl) (.tmp rfl rfl) rfl (Nat.le_of_ble_eq_true rfl) (oneA rfl) rfl) ?_
 rintro w265 hs267
 refine u_new (S':=fun u => St H u (obj g_m 78 ((.int .i64 ((m_n:Nat):Int))::(.int .i64 ((m_self:Nat):Int))::(.int .u64 ((m_cur.ID.N:Nat):Int))::(.int .i64 m_cur.ID.P)::(.int .u16 ((m_cur.Set:Nat):Int))::(.int .u64 ((((m_high + 1) % 18446744073709551616):Nat):Int))::(.int .i64 ((m_self:Nat):Int))::(.int .u64 ((((m_high + 1) % 18446744073709551616):Nat):Int))::(.pointer (some ⟨gp_m,0,none⟩))::(.slice A_m jn_m jc_m)::oCells m_os)::obj g88 39 [.int .u64 ((((m_high + 1) % 18446744073709551616):Nat):Int),.int .i64 ((m_self:Nat):Int),.int .u16 (((wth (est &&& (2 ^ m_n - 1)) ((m_self:Nat):Int)):Nat):Int)]::obj g10 37 (clState sx A6 n7 c8)::obj gp_m 81 (clProp p_m sv_m)::row 37 4 sv_m p_m.states.length sc_m::L)) rfl (fun u hu => hu.drop) hs267 ?_
 refine u_eff (k:=11) rfl ?_
 refine st_m (m_lit (n:=1) (ps:=[(0,.agg #[.int .u64 ((sx.V.N:Nat):Int),.int .i64 sx.V.P,.int .i64 sx.Floor,.slice A6 n7 c8])]) (cs:=[.int .u64 ((sx.V.N:Nat):Int),.int .i64 sx.V.P,.int .i64 sx.Floor,.slice A6 n7 c8]) Tryd.underlying40 inf37 (.cons (.tmp rfl rfl) Evp.nil) (by decide) (by decide) rfl rfl hs267) ?_
 rintro _ w269 ⟨g268,rfl,hs271⟩
 refine u_on (S':=fun u => St H u (obj g268 37 (clState sx A6 n7 c8)::obj g_m 78 ((.int .i64 ((m_n:Nat):Int))::(.int .i64 ((m_self:Nat):Int))::(.int .u64 ((m_cur.ID.N:Nat):Int))::(.int .i64 m_cur.ID.P)::(.int .u16 ((m_cur.Set:Nat):Int))::(.int .u64 ((((m_high + 1) % 18446744073709551616):Nat):Int))::(.int .i64 ((m_self:Nat):Int))::(.int .u64 ((((m_high + 1) % 18446744073709551616):Nat):Int))::(.pointer (some ⟨gp_m,0,none⟩))::(.slice A_m jn_m jc_m)::oCells m_os)::obj g88 39 [.int .u64 ((((m_high + 1) % 18446744073709551616):Nat):Int),.int .i64 ((m_self:Nat):Int),.int .u16 (((wth (est &&& (2 ^ m_n - 1)) ((m_self:Nat):Int)):Nat):Int)]::obj g10 37 (clState sx A6 n7 c8)::obj gp_m 81 (clProp p_m sv_m)::row 37 4 sv_m p_m.states.length sc_m::L)) (fun u hu => hu.drop) (fun u hu => hu.drop.drop) hs271 ?_
 refine u_fr (k:=12) (v:=.agg #[.int .u64 ((((m_high + 1) % 18446744073709551616):Nat):Int),.int .i64 ((m_self:Nat):Int),.int .u16 (((wth (est &&& (2 ^ m_n - 1)) ((m_self:Nat):Int)):Nat):Int),.int .u16 (((wth 0 ((m_self:Nat):Int)):Nat):Int),.slice (some ⟨g268,0,none⟩) 1 1,.bool false]) rfl rfl (fun w hs => (bl81 (ps:=[(0,.agg #[.int .u64 ((((m_high + 1) % 18446744073709551616):Nat):Int),.int .i64 ((m_self:Nat):Int),.int .u16 (((wth (est &&& (2 ^ m_n - 1)) ((m_self:Nat):Int)):Nat):Int)]),(1,.int .u16 (((wth 0 ((m_self:Nat):Int)):Nat):Int)),(2,.slice (some ⟨g268,0,none⟩) 1 1)]) (.cons (.tmp rfl rfl) (.cons (.tmp rfl rfl) (.cons (.tmp rfl rfl) Evp.nil))) rfl)) ?_
 refine u_eff (k:=13) rfl ?_
 refine st_m (m_box (cs:=[.int .u64 ((((m_high + 1) % 18446744073709551616):Nat):Int),.int .i64 ((m_self:Nat):Int),.int .u16 (((wth (est &&& (2 ^ m_n - 1)) ((m_self:Nat):Int)):Nat):Int),.int .u16 (((wth 0 ((m_self:Nat):Int)):Nat):Int),.slice (some ⟨g268,0,none⟩) 1 1,.bool false]) hs271 (v:=.agg #[.int .u64 ((((m_high + 1) % 18446744073709551616):Nat):Int),.int .i64 ((m_self:Nat):Int),.int .u16 (((wth (est &&& (2 ^ m_n - 1)) ((m_self:Nat):Int)):Nat):Int),.int .u16 (((wth 0 ((m_self:Nat):Int)):Nat):Int),.slice (some ⟨g268,0,none⟩) 1 1,.bool false]) (.tmp rfl rfl) rfl) ?_
 rintro _ w273 ⟨g272,rfl,hs275⟩
 refine u_on (S':=fun u => St H u (obj g272 81 [.int .u64 ((((m_high + 1) % 18446744073709551616):Nat):Int),.int .i64 ((m_self:Nat):Int),.int .u16 (((wth (est &&& (2 ^ m_n - 1)) ((m_self:Nat):Int)):Nat):Int),.int .u16 (((wth 0 ((m_self:Nat):Int)):Nat):Int),.slice (some ⟨g268,0,none⟩) 1 1,.bool false]::obj g268 37 (clState sx A6 n7 c8)::obj g_m 78 ((.int .i64 ((m_n:Nat):Int))::(.int .i64 ((m_self:Nat):Int))::(.int .u64 ((m_cur.ID.N:Nat):Int))::(.int .i64 m_cur.ID.P)::(.int .u16 ((m_cur.Set:Nat):Int))::(.int .u64 ((((m_high + 1) % 18446744073709551616):Nat):Int))::(.int .i64 ((m_self:Nat):Int))::(.int .u64 ((((m_high + 1) % 18446744073709551616):Nat):Int))::(.pointer (some ⟨gp_m,0,none⟩))::(.slice A_m jn_m jc_m)::oCells m_os)::obj g88 39 [.int .u64 ((((m_high + 1) % 18446744073709551616):Nat):Int),.int .i64 ((m_self:Nat):Int),.int .u16 (((wth (est &&& (2 ^ m_n - 1)) ((m_self:Nat):Int)):Nat):Int)]::obj g10 37 (clState sx A6 n7 c8)::obj gp_m 81 (clProp p_m sv_m)::row 37 4 sv_m p_m.states.length sc_m::L)) (fun u hu => hu.drop) (fun u hu => hu.drop.drop.drop) hs275 ?_
 refine u_st (k:=17) (v:=.pointer (some ⟨g_m,0,none⟩)) rfl rfl (fun w hs => (x_nilCheck (.tmp rfl rfl))) ?_
 refine u_st (k:=18) (v:=.pointer (some ⟨g_m,0 + 8,none⟩)) rfl rfl (fun w hs => (fa78_5 (.tmp rfl rfl))) ?_
 refine u_eff (k:=19) rfl ?_
 have hs276:=hs275.p2
 refine st_m0 (sto75 (cs':=((.int .i64 ((m_n:Nat):Int))::(.int .i64 ((m_self:Nat):Int))::(.int .u64 ((m_cur.ID.N:Nat):Int))::(.int .i64 m_cur.ID.P)::(.int .u16 ((m_cur.Set:Nat):Int))::(.int .u64 ((((m_high + 1) % 18446744073709551616):Nat):Int))::(.int .i64 ((m_self:Nat):Int))::(.int .u64 ((((m_high + 1) % 18446744073709551616):Nat):Int))::(.pointer (some ⟨g272,0,none⟩))::(.slice A_m jn_m jc_m)::oCells m_os)) (i:=0 + 8) hs276 (v:=.pointer (some ⟨g272,0,none⟩)) (.tmp rfl rfl) (.tmp rfl rfl) rfl (Nat.le_of_ble_eq_true rfl) one1 rfl) ?_
 rintro w277 hs279
 refine u_new (S':=fun u => St H u (obj g_m 78 ((.int .i64 ((m_n:Nat):Int))::(.int .i64 ((m_self:Nat):Int))::(.int .u64 ((m_cur.ID.N:Nat):Int))::(.int .i64 m_cur.ID.P)::(.int .u16 ((m_cur.Set:Nat):Int))::(.int .u64 ((((m_high + 1) % 18446744073709551616):Nat):Int))::(.int .i64 ((m_self:Nat):Int))::(.int .u64 ((((m_high + 1) % 18446744073709551616):Nat):Int))::(.pointer (some ⟨g272,0,none⟩))::(.slice A_m jn_m jc_m)::oCells m_os)::obj g272 81 [.int .u64 ((((m_high + 1) % 18446744073709551616):Nat):Int),.int .i64 ((m_self:Nat):Int),.int .u16 (((wth (est &&& (2 ^ m_n - 1)) ((m_self:Nat):Int)):Nat):Int),.int .u16 (((wth 0 ((m_self:Nat):Int)):Nat):Int),.slice (some ⟨g268,0,none⟩) 1 1,.bool false]::obj g268 37 (clState sx A6 n7 c8)::obj g88 39 [.int .u64 ((((m_high + 1) % 18446744073709551616):Nat):Int),.int .i64 ((m_self:Nat):Int),.int .u16 (((wth (est &&& (2 ^ m_n - 1)) ((m_self:Nat):Int)):Nat):Int)]::obj g10 37 (clState sx A6 n7 c8)::obj gp_m 81 (clProp p_m sv_m)::row 37 4 sv_m p_m.states.length sc_m::L)) rfl (fun u hu => hu.drop.drop.drop) hs279 ?_
 refine u_nil ?_
 refine n_then (c_seq (c_region (st (v:=.pointer (some ⟨g_m,0,none⟩)) (x_move (.tmp rfl hρ76)) ?_)))
 have hs280:=hs279.p2
 have hr285:kState.rep H sx [.int .u64 ((sx.V.N:Nat):Int),.int .i64 sx.V.P,.int .i64 sx.Floor,.slice A6 n7 c8]:=⟨A6,n7,c8,rfl,b1,⟨b2,b3⟩,⟨b4,b5⟩,hl9⟩
 obtain ⟨hs282,ok283⟩:=hs280.rowOfObj (n:=1) (size:=kState.sz) rfl (by decide)
 have hk284:kState.toKn.rows H [sx] [.int .u64 ((sx.V.N:Nat):Int),.int .i64 sx.V.P,.int .i64 sx.Floor,.slice A6 n7 c8]:=Kn.rows_one hr285
 have:([sx]:List GState).length = 1:=rfl
 have hs286:St H _ (row 37 4 (.slice (some ⟨g268,0,none⟩) 1 1) (([sx]:List GState).length) [.int .u64 ((sx.V.N:Nat):Int),.int .i64 sx.V.P,.int .i64 sx.Floor,.slice A6 n7 c8]::obj g_m 78 ((.int .i64 ((m_n:Nat):Int))::(.int .i64 ((m_self:Nat):Int))::(.int .u64 ((m_cur.ID.N:Nat):Int))::(.int .i64 m_cur.ID.P)::(.int .u16 ((m_cur.Set:Nat):Int))::(.int .u64 ((((m_high + 1) % 18446744073709551616):Nat):Int))::(.int .i64 ((m_self:Nat):Int))::(.int .u64 ((((m_high + 1) % 18446744073709551616):Nat):Int))::(.pointer (some ⟨g272,0,none⟩))::(.slice A_m jn_m jc_m)::oCells m_os)::obj g272 81 [.int .u64 ((((m_high + 1) % 18446744073709551616):Nat):Int),.int .i64 ((m_self:Nat):Int),.int .u16 (((wth (est &&& (2 ^ m_n - 1)) ((m_self:Nat):Int)):Nat):Int),.int .u16 (((wth 0 ((m_self:Nat):Int)):Nat):Int),.slice (some ⟨g268,0,none⟩) 1 1,.bool false]::obj g88 39 [.int .u64 ((((m_high + 1) % 18446744073709551616):Nat):Int),.int .i64 ((m_self:Nat):Int),.int .u16 (((wth (est &&& (2 ^ m_n - 1)) ((m_self:Nat):Int)):Nat):Int)]::obj g10 37 (clState sx A6 n7 c8)::obj gp_m 81 (clProp p_m sv_m)::row 37 4 sv_m p_m.states.length sc_m::L):=hs282
 have hs287:=hs286.p2
 have hs288:=hs287.p2
 have okm289:MemB H m_n m_self m_cur (GViewID.mk ((m_high + 1) % 18446744073709551616) ((m_self:Nat):Int)) ((m_high + 1) % 18446744073709551616) A_m jn_m jc_m m_jl m_os:=⟨hn1_m,hn16_m,hsf_m,⟨ok_m.cur.n,ok_m.cur.p⟩,ok_m.set,⟨(Nat.mod_lt _ (by decide)),(show IB ((m_self:Nat):Int) from ⟨by omega,by omega⟩)⟩,(Nat.mod_lt _ (by decide)),ok_m.joined,ok_m.len,ok_m.oth⟩
 have okp290:PropOk H (GProp.mk (GView.mk (GViewID.mk ((m_high + 1) % 18446744073709551616) ((m_self:Nat):Int)) (wth (est &&& (2 ^ m_n - 1)) ((m_self:Nat):Int))) (wth 0 ((m_self:Nat):Int)) ([sx]:List GState) false) (.slice (some ⟨g268,0,none⟩) 1 1) [.int .u64 ((sx.V.N:Nat):Int),.int .i64 sx.V.P,.int .i64 sx.Floor,.slice A6 n7 c8]:=⟨⟨(Nat.mod_lt _ (by decide)),(show IB ((m_self:Nat):Int) from ⟨by omega,by omega⟩)⟩,(wth_lt hb15 ((m_self:Nat):Int)),(wth_lt (by decide) ((m_self:Nat):Int)),ok283,hk284⟩
 refine st_c cb27 .func (evs1 (.tmp rfl rfl)) (agree_S hs288 (p_m:=(GProp.mk (GView.mk (GViewID.mk ((m_high + 1) % 18446744073709551616) ((m_self:Nat):Int)) (wth (est &&& (2 ^ m_n - 1)) ((m_self:Nat):Int))) (wth 0 ((m_self:Nat):Int)) ([sx]:List GState) false)) (m_n:=m_n) (m_self:=m_self) (m_cur:=m_cur) (m_prom:=(GViewID.mk ((m_high + 1) % 18446744073709551616) ((m_self:Nat):Int))) (m_high:=((m_high + 1) % 18446744073709551616)) (m_jl:=m_jl) (m_os:=m_os) okm289 okp290 (by simp) (fun s hs => by rw [List.mem_singleton.1 hs]; exact hfl)) ?_
 rintro e w291 ⟨H293,iv295,cz298,jz299,A300,jn301,jc302,pz304,sv305,sc306,hle294,rfl,hin296,okm297,hkp303,hme307,hs292⟩
 refine ⟨_,rfl,?_⟩
 refine st (v:=iv295) (x_assign (.tmp rfl rfl)) ?_
 refine c_nil (n_then (c_seq (c_region (st (v:=iv295) (x_move (.tmp rfl rfl)) ?_))))
 rcases InstAt.cases hin296 with ⟨hX311,rfl⟩ | ⟨yi308,gi309,ci310,hX311,rfl,hrd312,hrp313⟩
 refine st (v:=.bool false) (x_neqP Tryd.underlying28 (.tmp rfl rfl) .const rfl) ?_
 refine c_nil (n_then (c_cond_f (t:=false) (.tmp rfl rfl) rfl ?_))
 refine c_skip (n_then (c_seq (c_region (st (v:=.pointer (some ⟨g_m,0,none⟩)) (x_move (.tmp rfl hρ76)) ?_))))
 have hs315:=hs292.p2
 have hs316:=hs315.p2
 have hs317:=hs316.p2
 have okm318:MemB H293 m_n m_self cz298 (GViewID.mk ((m_high + 1) % 18446744073709551616) ((m_self:Nat):Int)) ((m_high + 1) % 18446744073709551616) A300 jn301 jc302 jz299 m_os:=⟨hn1_m,hn16_m,hsf_m,⟨okm297.cur.n,okm297.cur.p⟩,okm297.set,⟨okm297.prom.n,okm297.prom.p⟩,okm297.high,okm297.joined,okm297.len,okm297.oth⟩
 have okp319:PropOk H293 pz304 sv305 sc306:=⟨⟨hkp303.id.n,hkp303.id.p⟩,hkp303.set,hkp303.who,hkp303.ok,hkp303.hk⟩
 refine st_c cb28 .func (evs1 (.tmp rfl rfl)) (again_S hs317 (p_m:=pz304) (m_n:=m_n) (m_self:=m_self) (m_cur:=cz298) (m_prom:=(GViewID.mk ((m_high + 1) % 18446744073709551616) ((m_self:Nat):Int))) (m_high:=((m_high + 1) % 18446744073709551616)) (m_jl:=jz299) (m_os:=m_os) okm318 okp319 (htab.mono hle294)) ?_
 rintro e w320 ⟨v322,cs325,rfl,ok323,hk326,hs321⟩
 refine ⟨_,rfl,?_⟩
 refine st (v:=v322) (x_assign (.tmp rfl rfl)) ?_
 refine st (v:=.pointer none) (x_assign .const) ?_
 refine c_nil (n_then (c_ret (leave_ret (res_two (v:=v322) (u:=.pointer none) rfl (.mk rfl rfl) (.mk rfl rfl)) ?_)))
 have hpq:(MB.tick (MB.mk m_n m_self m_cur m_prom m_high (some p_m) m_jl m_os) est sx) = _:=tick_wait rfl hc81 hme307 hX311 rfl
 rw [hpq]
 have okm327:MemB H293 m_n m_self cz298 (GViewID.mk ((m_high + 1) % 18446744073709551616) ((m_self:Nat):Int)) ((m_high + 1) % 18446744073709551616) A300 jn301 jc302 jz299 m_os:=⟨hn1_m,hn16_m,hsf_m,⟨okm297.cur.n,okm297.cur.p⟩,okm297.set,⟨okm297.prom.n,okm297.prom.p⟩,okm297.high,okm297.joined,okm297.len,okm297.oth⟩
 have hs328:=hs321.p3
 have hs329:=hs328.p3
 have okp330:PropOk H293 pz304 sv305 sc306:=⟨⟨hkp303.id.n,hkp303.id.p⟩,hkp303.set,hkp303.who,hkp303.ok,hkp303.hk⟩
 have hs331:=hs329.p3
 have hs332:St H293 _ (row 53 16 v322 ((MB.again (MB.mk m_n m_self cz298 (GViewID.mk ((m_high + 1) % 18446744073709551616) ((m_self:Nat):Int)) ((m_high + 1) % 18446744073709551616) (some pz304) jz299 m_os)).length) cs325::obj g88 39 [.int .u64 ((((m_high + 1) % 18446744073709551616):Nat):Int),.int .i64 ((m_self:Nat):Int),.int .u16 (((wth (est &&& (2 ^ m_n - 1)) ((m_self:Nat):Int)):Nat):Int)]::obj g10 37 (clState sx A6 n7 c8)::obj gp_m 81 (clProp p_m sv_m)::row 37 4 sv_m p_m.states.length sc_m::memR 78 81 37 g_m g272 A300 jn301 jc302 sv305 sc306 (MB.mk m_n m_self cz298 (GViewID.mk ((m_high + 1) % 18446744073709551616) ((m_self:Nat):Int)) ((m_high + 1) % 18446744073709551616) (some pz304) jz299 m_os) ++ (L)):=St.foldS (TP:=81) (TS:=37) (gp:=g272) (sv:=sv305) (sc:=sc306) [row 53 16 v322 ((MB.again (MB.mk m_n m_self cz298 (GViewID.mk ((m_high + 1) % 18446744073709551616) ((m_self:Nat):Int)) ((m_high + 1) % 18446744073709551616) (some pz304) jz299 m_os)).length) cs325,obj g88 39 [.int .u64 ((((m_high + 1) % 18446744073709551616):Nat):Int),.int .i64 ((m_self:Nat):Int),.int .u16 (((wth (est &&& (2 ^ m_n - 1)) ((m_self:Nat):Int)):Nat):Int)],obj g10 37 (clState sx A6 n7 c8),obj gp_m 81 (clProp p_m sv_m),row 37 4 sv_m p_m.states.length sc_m] hs331
 exact ⟨H293,v322,cs325,(.pointer none),(MB.mk m_n m_self cz298 (GViewID.mk ((m_high + 1) % 18446744073709551616) ((m_self:Nat):Int)) ((m_high + 1) % 18446744073709551616) (some pz304) jz299 m_os),g272,A300,jn301,jc302,sv305,sc306,hle294,rfl,ok323,hk326,InstAt.none',(okm327.okS okp330),rfl,((((hs332.p1).drop.p1).drop.p1).drop.p1).drop⟩
 obtain ⟨A337,n338,c339,rfl,b333,⟨b334,b335⟩,b336,hl340⟩:=hrp313
 have:=hl340.len; have:n338 * 48 ≤ 140737488351232:=hl340.bnd; have:=hl340.le
 have hat314:∀ {w:World} {L:List Res},St H293 w L → At w ⟨gi309,0,none⟩ [.int .u64 ((yi308.View.ID.N:Nat):Int),.int .i64 yi308.View.ID.P,.int .u16 ((yi308.View.Set:Nat):Int),.slice A337 n338 c339]:=fun h => hrd312.hat h
 refine st (v:=.bool true) (x_neqP Tryd.underlying28 (.tmp rfl rfl) .const rfl) ?_
 refine c_nil (n_then (c_cond_t (t:=true) (.tmp rfl rfl) rfl ?_))
 refine c_seq (c_region (st (v:=.pointer (some ⟨gi309,0,none⟩)) (x_move (.tmp rfl rfl)) ?_))
 refine st (v:=.slice none 0 0) (x_assign .const) ?_
 refine st (v:=.pointer (some ⟨gi309,0,none⟩)) (x_assign (.tmp rfl rfl)) ?_
 refine c_nil (n_then (c_ret (r_then (leave_ret (res_two (v:=.slice none 0 0) (u:=.pointer (some ⟨gi309,0,none⟩)) rfl (.mk rfl rfl) (.mk rfl rfl)) ?_))))
 have hpq:(MB.tick (MB.mk m_n m_self m_cur m_prom m_high (some p_m) m_jl m_os) est sx) = _:=tick_done rfl hc81 hme307 hX311 rfl
 rw [hpq]
 have hs341:=hs292.krowNil 53 kOut
 have okm343:MemB H293 m_n m_self cz298 (GViewID.mk ((m_high + 1) % 18446744073709551616) ((m_self:Nat):Int)) ((m_high + 1) % 18446744073709551616) A300 jn301 jc302 jz299 m_os:=⟨hn1_m,hn16_m,hsf_m,⟨okm297.cur.n,okm297.cur.p⟩,okm297.set,⟨okm297.prom.n,okm297.prom.p⟩,okm297.high,okm297.joined,okm297.len,okm297.oth⟩
 have hs344:=hs341.p3
 have hs345:=hs344.p3
 have okp346:PropOk H293 pz304 sv305 sc306:=⟨⟨hkp303.id.n,hkp303.id.p⟩,hkp303.set,hkp303.who,hkp303.ok,hkp303.hk⟩
 have hs347:=hs345.p3
 have hs348:St H293 _ (row 53 16 (.slice none 0 0) (([]:List GOut).length) []::obj g88 39 [.int .u64 ((((m_high + 1) % 18446744073709551616):Nat):Int),.int .i64 ((m_self:Nat):Int),.int .u16 (((wth (est &&& (2 ^ m_n - 1)) ((m_self:Nat):Int)):Nat):Int)]::obj g10 37 (clState sx A6 n7 c8)::obj gp_m 81 (clProp p_m sv_m)::row 37 4 sv_m p_m.states.length sc_m::memR 78 81 37 g_m g272 A300 jn301 jc302 sv305 sc306 (MB.mk m_n m_self cz298 (GViewID.mk ((m_high + 1) % 18446744073709551616) ((m_self:Nat):Int)) ((m_high + 1) % 18446744073709551616) (some pz304) jz299 m_os) ++ (L)):=St.foldS (TP:=81) (TS:=37) (gp:=g272) (sv:=sv305) (sc:=sc306) [row 53 16 (.slice none 0 0) (([]:List GOut).length) [],obj g88 39 [.int .u64 ((((m_high + 1) % 18446744073709551616):Nat):Int),.int .i64 ((m_self:Nat):Int),.int .u16 (((wth (est &&& (2 ^ m_n - 1)) ((m_self:Nat):Int)):Nat):Int)],obj g10 37 (clState sx A6 n7 c8),obj gp_m 81 (clProp p_m sv_m),row 37 4 sv_m p_m.states.length sc_m] hs347
 exact ⟨H293,(.slice none 0 0),[],.pointer (some ⟨gi309,0,none⟩),(MB.mk m_n m_self cz298 (GViewID.mk ((m_high + 1) % 18446744073709551616) ((m_self:Nat):Int)) ((m_high + 1) % 18446744073709551616) (some pz304) jz299 m_os),g272,A300,jn301,jc302,sv305,sc306,hle294,rfl,(RowOk.knil kOut),(Kn.rows_nil _ _),(InstAt.some_of rfl hrd312 ⟨A337,n338,c339,rfl,b333,⟨b334,b335⟩,b336,hl340⟩),(okm343.okS okp346),rfl,((((hs348.p1).drop.p1).drop.p1).drop.p1).drop⟩
 refine u_eff (k:=11) rfl ?_
 refine st_m (m_lit (n:=1) (ps:=[(0,.agg #[.int .u64 ((sx.V.N:Nat):Int),.int .i64 sx.V.P,.int .i64 sx.Floor,.slice A6 n7 c8])]) (cs:=[.int .u64 ((sx.V.N:Nat):Int),.int .i64 sx.V.P,.int .i64 sx.Floor,.slice A6 n7 c8]) Tryd.underlying40 inf37 (.cons (.tmp rfl rfl) Evp.nil) (by decide) (by decide) rfl rfl hs96) ?_
 rintro _ w350 ⟨g349,rfl,hs352⟩
 refine u_on (S':=fun u => St H u (obj g349 37 (clState sx A6 n7 c8)::obj g88 39 [.int .u64 ((((m_high + 1) % 18446744073709551616):Nat):Int),.int .i64 ((m_self:Nat):Int),.int .u16 (((wth (est &&& (2 ^ m_n - 1)) ((m_self:Nat):Int)):Nat):Int)]::obj g_m 78 ((.int .i64 ((m_n:Nat):Int))::(.int .i64 ((m_self:Nat):Int))::(.int .u64 ((m_cur.ID.N:Nat):Int))::(.int .i64 m_cur.ID.P)::(.int .u16 ((m_cur.Set:Nat):Int))::(.int .u64 ((m_prom.N:Nat):Int))::(.int .i64 m_prom.P)::(.int .u64 ((((m_high + 1) % 18446744073709551616):Nat):Int))::(.pointer (some ⟨gp_m,0,none⟩))::(.slice A_m jn_m jc_m)::oCells m_os)::obj g10 37 (clState sx A6 n7 c8)::obj gp_m 81 (clProp p_m sv_m)::row 37 4 sv_m p_m.states.length sc_m::L)) (fun u hu => hu.drop) (fun u hu => (hu.drop.p1).drop) hs352 ?_
 refine u_eff (k:=9) rfl ?_
 refine st_c cb24 .func (evs2 .const (.tmp rfl rfl)) (with_spec hs352 0 ((m_self:Nat):Int) (by decide) (by omega)) ?_
 rintro e w353 ⟨rfl,hs354⟩
 refine ⟨_,rfl,?_⟩
 refine u_on (S':=fun u => St H u (obj g349 37 (clState sx A6 n7 c8)::obj g88 39 [.int .u64 ((((m_high + 1) % 18446744073709551616):Nat):Int),.int .i64 ((m_self:Nat):Int),.int .u16 (((wth (est &&& (2 ^ m_n - 1)) ((m_self:Nat):Int)):Nat):Int)]::obj g_m 78 ((.int .i64 ((m_n:Nat):Int))::(.int .i64 ((m_self:Nat):Int))::(.int .u64 ((m_cur.ID.N:Nat):Int))::(.int .i64 m_cur.ID.P)::(.int .u16 ((m_cur.Set:Nat):Int))::(.int .u64 ((m_prom.N:Nat):Int))::(.int .i64 m_prom.P)::(.int .u64 ((((m_high + 1) % 18446744073709551616):Nat):Int))::(.pointer (some ⟨gp_m,0,none⟩))::(.slice A_m jn_m jc_m)::oCells m_os)::obj g10 37 (clState sx A6 n7 c8)::obj gp_m 81 (clProp p_m sv_m)::row 37 4 sv_m p_m.states.length sc_m::L)) (fun u hu => hu) (fun u hu => (hu.drop.p1).drop) hs354 ?_
 refine u_fr (k:=12) (v:=.agg #[.int .u64 ((((m_high + 1) % 18446744073709551616):Nat):Int),.int .i64 ((m_self:Nat):Int),.int .u16 (((wth (est &&& (2 ^ m_n - 1)) ((m_self:Nat):Int)):Nat):Int),.int .u16 (((wth 0 ((m_self:Nat):Int)):Nat):Int),.slice (some ⟨g349,0,none⟩) 1 1,.bool false]) rfl rfl (fun w hs => (bl81 (ps:=[(0,.agg #[.int .u64 ((((m_high + 1) % 18446744073709551616):Nat):Int),.int .i64 ((m_self:Nat):Int),.int .u16 (((wth (est &&& (2 ^ m_n - 1)) ((m_self:Nat):Int)):Nat):Int)]),(1,.int .u16 (((wth 0 ((m_self:Nat):Int)):Nat):Int)),(2,.slice (some ⟨g349,0,none⟩) 1 1)]) (.cons (.tmp rfl rfl) (.cons (.tmp rfl rfl) (.cons (.tmp rfl rfl) Evp.nil))) rfl)) ?_
 refine u_st (k:=14) (v:=.pointer (some ⟨g_m,0,none⟩)) rfl rfl (fun w hs => (x_nilCheck (.tmp rfl rfl))) ?_
 refine u_st (k:=15) (v:=.pointer (some ⟨g_m,0 + 5,none⟩)) rfl rfl (fun w hs => (fa78_3 (.tmp rfl rfl))) ?_
 refine u_two ?_ ?_
 refine u_eff (k:=13) rfl ?_
 refine st_m (m_box (cs:=[.int .u64 ((((m_high + 1) % 18446744073709551616):Nat):Int),.int .i64 ((m_self:Nat):Int),.int .u16 (((wth (est &&& (2 ^ m_n - 1)) ((m_self:Nat):Int)):Nat):Int),.int .u16 (((wth 0 ((m_self:Nat):Int)):Nat):Int),.slice (some ⟨g349,0,none⟩) 1 1,.bool false]) hs354 (v:=.agg #[.int .u64 ((((m_high + 1) % 18446744073709551616):Nat):Int),.int .i64 ((m_self:Nat):Int),.int .u16 (((wth (est &&& (2 ^ m_n - 1)) ((m_self:Nat):Int)):Nat):Int),.int .u16 (((wth 0 ((m_self:Nat):Int)):Nat):Int),.slice (some ⟨g349,0,none⟩) 1 1,.bool false]) (.tmp rfl rfl) rfl) ?_
 rintro _ w356 ⟨g355,rfl,hs358⟩
 refine u_on (S':=fun u => St H u (obj g355 81 [.int .u64 ((((m_high + 1) % 18446744073709551616):Nat):Int),.int .i64 ((m_self:Nat):Int),.int .u16 (((wth (est &&& (2 ^ m_n - 1)) ((m_self:Nat):Int)):Nat):Int),.int .u16 (((wth 0 ((m_self:Nat):Int)):Nat):Int),.slice (some ⟨g349,0,none⟩) 1 1,.bool false]::obj g349 37 (clState sx A6 n7 c8)::obj g88 39 [.int .u64 ((((m_high + 1) % 18446744073709551616):Nat):Int),.int .i64 ((m_self:Nat):Int),.int .u16 (((wth (est &&& (2 ^ m_n - 1)) ((m_self:Nat):Int)):Nat):Int)]::obj g_m 78 ((.int .i64 ((m_n:Nat):Int))::(.int .i64 ((m_self:Nat):Int))::(.int .u64 ((m_cur.ID.N:Nat):Int))::(.int .i64 m_cur.ID.P)::(.int .u16 ((m_cur.Set:Nat):Int))::(.int .u64 ((m_prom.N:Nat):Int))::(.int .i64 m_prom.P)::(.int .u64 ((((m_high + 1) % 18446744073709551616):Nat):Int))::(.pointer (some ⟨gp_m,0,none⟩))::(.slice A_m jn_m jc_m)::oCells m_os)::obj g10 37 (clState sx A6 n7 c8)::obj gp_m 81 (clProp p_m sv_m)::row 37 4 sv_m p_m.states.length sc_m::L)) (fun u hu => hu.drop) (fun u hu => (hu.drop.drop.p1).drop) hs358 ?_
 refine u_eff (k:=16) rfl ?_
 have hs359:=hs358.p3
 refine st_m0 (sto34 (cs':=((.int .i64 ((m_n:Nat):Int))::(.int .i64 ((m_self:Nat):Int))::(.int .u64 ((m_cur.ID.N:Nat):Int))::(.int .i64 m_cur.ID.P)::(.int .u16 ((m_cur.Set:Nat):Int))::(.int .u64 ((((m_high + 1) % 18446744073709551616):Nat):Int))::(.int .i64 ((m_self:Nat):Int))::(.int .u64 ((((m_high + 1) % 18446744073709551616):Nat):Int))::(.pointer (some ⟨gp_m,0,none⟩))::(.slice A_m jn_m jc_m)::oCells m_os)) (i:=0 + 5) hs359 (v:=.agg #[.int .u64 ((((m_high + 1) % 18446744073709551616):Nat):Int),.int .i64 ((m_self:Nat):Int)]) (.tmp rfl rfl) (.tmp rfl rfl) rfl (Nat.le_of_ble_eq_true rfl) (oneA rfl) rfl) ?_
 rintro w360 hs362
 refine u_new (S':=fun u => St H u (obj g_m 78 ((.int .i64 ((m_n:Nat):Int))::(.int .i64 ((m_self:Nat):Int))::(.int .u64 ((m_cur.ID.N:Nat):Int))::(.int .i64 m_cur.ID.P)::(.int .u16 ((m_cur.Set:Nat):Int))::(.int .u64 ((((m_high + 1) % 18446744073709551616):Nat):Int))::(.int .i64 ((m_self:Nat):Int))::(.int .u64 ((((m_high + 1) % 18446744073709551616):Nat):Int))::(.pointer (some ⟨gp_m,0,none⟩))::(.slice A_m jn_m jc_m)::oCells m_os)::obj g355 81 [.int .u64 ((((m_high + 1) % 18446744073709551616):Nat):Int),.int .i64 ((m_self:Nat):Int),.int .u16 (((wth (est &&& (2 ^ m_n - 1)) ((m_self:Nat):Int)):Nat):Int),.int .u16 (((wth 0 ((m_self:Nat):Int)):Nat):Int),.slice (some ⟨g349,0,none⟩) 1 1,.bool false]::obj g349 37 (clState sx A6 n7 c8)::obj g88 39 [.int .u64 ((((m_high + 1) % 18446744073709551616):Nat):Int),.int .i64 ((m_self:Nat):Int),.int .u16 (((wth (est &&& (2 ^ m_n - 1)) ((m_self:Nat):Int)):Nat):Int)]::obj g10 37 (clState sx A6 n7 c8)::obj gp_m 81 (clProp p_m sv_m)::row 37 4 sv_m p_m.states.length sc_m::L)) rfl (fun u hu => hu.drop.drop.drop) hs362 ?_
 refine u_st (k:=17) (v:=.pointer (some ⟨g_m,0,none⟩)) rfl rfl (fun w hs => (x_nilCheck (.tmp rfl rfl))) ?_
 refine u_st (k:=18) (v:=.pointer (some ⟨g_m,0 + 8,none⟩)) rfl rfl (fun w hs => (fa78_5 (.tmp rfl rfl))) ?_
 refine u_eff (k:=19) rfl ?_
 refine st_m0 (sto75 (cs':=((.int .i64 ((m_n:Nat):Int))::(.int .i64 ((m_self:Nat):Int))::(.int .u64 ((m_cur.ID.N:Nat):Int))::(.int .i64 m_cur.ID.P)::(.int .u16 ((m_cur.Set:Nat):Int))::(.int .u64 ((((m_high + 1) % 18446744073709551616):Nat):Int))::(.int .i64 ((m_self:Nat):Int))::(.int .u64 ((((m_high + 1) % 18446744073709551616):Nat):Int))::(.pointer (some ⟨g355,0,none⟩))::(.slice A_m jn_m jc_m)::oCells m_os)) (i:=0 + 8) hs362 (v:=.pointer (some ⟨g355,0,none⟩)) (.tmp rfl rfl) (.tmp rfl rfl) rfl (Nat.le_of_ble_eq_true rfl) one1 rfl) ?_
 rintro w363 hs365
 refine u_new (S':=fun u => St H u (obj g_m 78 ((.int .i64 ((m_n:Nat):Int))::(.int .i64 ((m_self:Nat):Int))::(.int .u64 ((m_cur.ID.N:Nat):Int))::(.int .i64 m_cur.ID.P)::(.int .u16 ((m_cur.Set:Nat):Int))::(.int .u64 ((((m_high + 1) % 18446744073709551616):Nat):Int))::(.int .i64 ((m_self:Nat):Int))::(.int .u64 ((((m_high + 1) % 18446744073709551616):Nat):Int))::(.pointer (some ⟨g355,0,none⟩))::(.slice A_m jn_m jc_m)::oCells m_os)::obj g355 81 [.int .u64 ((((m_high + 1) % 18446744073709551616):Nat):Int),.int .i64 ((m_self:Nat):Int),.int .u16 (((wth (est &&& (2 ^ m_n - 1)) ((m_self:Nat):Int)):Nat):Int),.int .u16 (((wth 0 ((m_self:Nat):Int)):Nat):Int),.slice (some ⟨g349,0,none⟩) 1 1,.bool false]::obj g349 37 (clState sx A6 n7 c8)::obj g88 39 [.int .u64 ((((m_high + 1) % 18446744073709551616):Nat):Int),.int .i64 ((m_self:Nat):Int),.int .u16 (((wth (est &&& (2 ^ m_n - 1)) ((m_self:Nat):Int)):Nat):Int)]::obj g10 37 (clState sx A6 n7 c8)::obj gp_m 81 (clProp p_m sv_m)::row 37 4 sv_m p_m.states.length sc_m::L)) rfl (fun u hu => hu.drop.drop.drop) hs365 ?_
 refine u_nil ?_
 refine n_then (c_seq (c_region (st (v:=.pointer (some ⟨g_m,0,none⟩)) (x_move (.tmp rfl hρ76)) ?_)))
 have hs366:=hs365.p2
 have hr371:kState.rep H sx [.int .u64 ((sx.V.N:Nat):Int),.int .i64 sx.V.P,.int .i64 sx.Floor,.slice A6 n7 c8]:=⟨A6,n7,c8,rfl,b1,⟨b2,b3⟩,⟨b4,b5⟩,hl9⟩
 obtain ⟨hs368,ok369⟩:=hs366.rowOfObj (n:=1) (size:=kState.sz) rfl (by decide)
 have hk370:kState.toKn.rows H [sx] [.int .u64 ((sx.V.N:Nat):Int),.int .i64 sx.V.P,.int .i64 sx.Floor,.slice A6 n7 c8]:=Kn.rows_one hr371
 have:([sx]:List GState).length = 1:=rfl
 have hs372:St H _ (row 37 4 (.slice (some ⟨g349,0,none⟩) 1 1) (([sx]:List GState).length) [.int .u64 ((sx.V.N:Nat):Int),.int .i64 sx.V.P,.int .i64 sx.Floor,.slice A6 n7 c8]::obj g_m 78 ((.int .i64 ((m_n:Nat):Int))::(.int .i64 ((m_self:Nat):Int))::(.int .u64 ((m_cur.ID.N:Nat):Int))::(.int .i64 m_cur.ID.P)::(.int .u16 ((m_cur.Set:Nat):Int))::(.int .u64 ((((m_high + 1) % 18446744073709551616):Nat):Int))::(.int .i64 ((m_self:Nat):Int))::(.int .u64 ((((m_high + 1) % 18446744073709551616):Nat):Int))::(.pointer (some ⟨g355,0,none⟩))::(.slice A_m jn_m jc_m)::oCells m_os)::obj g355 81 [.int .u64 ((((m_high + 1) % 18446744073709551616):Nat):Int),.int .i64 ((m_self:Nat):Int),.int .u16 (((wth (est &&& (2 ^ m_n - 1)) ((m_self:Nat):Int)):Nat):Int),.int .u16 (((wth 0 ((m_self:Nat):Int)):Nat):Int),.slice (some ⟨g349,0,none⟩) 1 1,.bool false]::obj g88 39 [.int .u64 ((((m_high + 1) % 18446744073709551616):Nat):Int),.int .i64 ((m_self:Nat):Int),.int .u16 (((wth (est &&& (2 ^ m_n - 1)) ((m_self:Nat):Int)):Nat):Int)]::obj g10 37 (clState sx A6 n7 c8)::obj gp_m 81 (clProp p_m sv_m)::row 37 4 sv_m p_m.states.length sc_m::L):=hs368
 have hs373:=hs372.p2
 have hs374:=hs373.p2
 have okm375:MemB H m_n m_self m_cur (GViewID.mk ((m_high + 1) % 18446744073709551616) ((m_self:Nat):Int)) ((m_high + 1) % 18446744073709551616) A_m jn_m jc_m m_jl m_os:=⟨hn1_m,hn16_m,hsf_m,⟨ok_m.cur.n,ok_m.cur.p⟩,ok_m.set,⟨(Nat.mod_lt _ (by decide)),(show IB ((m_self:Nat):Int) from ⟨by omega,by omega⟩)⟩,(Nat.mod_lt _ (by decide)),ok_m.joined,ok_m.len,ok_m.oth⟩
 have okp376:PropOk H (GProp.mk (GView.mk (GViewID.mk ((m_high + 1) % 18446744073709551616) ((m_self:Nat):Int)) (wth (est &&& (2 ^ m_n - 1)) ((m_self:Nat):Int))) (wth 0 ((m_self:Nat):Int)) ([sx]:List GState) false) (.slice (some ⟨g349,0,none⟩) 1 1) [.int .u64 ((sx.V.N:Nat):Int),.int .i64 sx.V.P,.int .i64 sx.Floor,.slice A6 n7 c8]:=⟨⟨(Nat.mod_lt _ (by decide)),(show IB ((m_self:Nat):Int) from ⟨by omega,by omega⟩)⟩,(wth_lt hb15 ((m_self:Nat):Int)),(wth_lt (by decide) ((m_self:Nat):Int)),ok369,hk370⟩
 refine st_c cb27 .func (evs1 (.tmp rfl rfl)) (agree_S hs374 (p_m:=(GProp.mk (GView.mk (GViewID.mk ((m_high + 1) % 18446744073709551616) ((m_self:Nat):Int)) (wth (est &&& (2 ^ m_n - 1)) ((m_self:Nat):Int))) (wth 0 ((m_self:Nat):Int)) ([sx]:List GState) false)) (m_n:=m_n) (m_self:=m_self) (m_cur:=m_cur) (m_prom:=(GViewID.mk ((m_high + 1) % 18446744073709551616) ((m_self:Nat):Int))) (m_high:=((m_high + 1) % 18446744073709551616)) (m_jl:=m_jl) (m_os:=m_os) okm375 okp376 (by simp) (fun s hs => by rw [List.mem_singleton.1 hs]; exact hfl)) ?_
 rintro e w377 ⟨H379,iv381,cz384,jz385,A386,jn387,jc388,pz390,sv391,sc392,hle380,rfl,hin382,okm383,hkp389,hme393,hs378⟩
 refine ⟨_,rfl,?_⟩
 refine st (v:=iv381) (x_assign (.tmp rfl rfl)) ?_
 refine c_nil (n_then (c_seq (c_region (st (v:=iv381) (x_move (.tmp rfl rfl)) ?_))))
 rcases InstAt.cases hin382 with ⟨hX397,rfl⟩ | ⟨yi394,gi395,ci396,hX397,rfl,hrd398,hrp399⟩
 refine st (v:=.bool false) (x_neqP Tryd.underlying28 (.tmp rfl rfl) .const rfl) ?_
 refine c_nil (n_then (c_cond_f (t:=false) (.tmp rfl rfl) rfl ?_))
 refine c_skip (n_then (c_seq (c_region (st (v:=.pointer (some ⟨g_m,0,none⟩)) (x_move (.tmp rfl hρ76)) ?_))))
 have hs401:=hs378.p2
 have hs402:=hs401.p2
 have hs403:=hs402.p2
 have okm404:MemB H379 m_n m_self cz384 (GViewID.mk ((m_high + 1) % 18446744073709551616) ((m_self:Nat):Int)) ((m_high + 1) % 18446744073709551616) A386 jn387 jc388 jz385 m_os:=⟨hn1_m,hn16_m,hsf_m,⟨okm383.cur.n,okm383.cur.p⟩,okm383.set,⟨okm383.prom.n,okm383.prom.p⟩,okm383.high,okm383.joined,okm383.len,okm383.oth⟩
 have okp405:PropOk H379 pz390 sv391 sc392:=⟨⟨hkp389.id.n,hkp389.id.p⟩,hkp389.set,hkp389.who,hkp389.ok,hkp389.hk⟩
 refine st_c cb28 .func (evs1 (.tmp rfl rfl)) (again_S hs403 (p_m:=pz390) (m_n:=m_n) (m_self:=m_self) (m_cur:=cz384) (m_prom:=(GViewID.mk ((m_high + 1) % 18446744073709551616) ((m_self:Nat):Int))) (m_high:=((m_high + 1) % 18446744073709551616)) (m_jl:=jz385) (m_os:=m_os) okm404 okp405 (htab.mono hle380)) ?_
 rintro e w406 ⟨v408,cs411,rfl,ok409,hk412,hs407⟩
 refine ⟨_,rfl,?_⟩
 refine st (v:=v408) (x_assign (.tmp rfl rfl)) ?_
 refine st (v:=.pointer none) (x_assign .const) ?_
 refine c_nil (n_then (c_ret (leave_ret (res_two (v:=v408) (u:=.pointer none) rfl (.mk rfl rfl) (.mk rfl rfl)) ?_)))
 have hpq:(MB.tick (MB.mk m_n m_self m_cur m_prom m_high (some p_m) m_jl m_os) est sx) = _:=tick_wait rfl hc81 hme393 hX397 rfl
 rw [hpq]
 have okm413:MemB H379 m_n m_self cz384 (GViewID.mk ((m_high + 1) % 18446744073709551616) ((m_self:Nat):Int)) ((m_high + 1) % 18446744073709551616) A386 jn387 jc388 jz385 m_os:=⟨hn1_m,hn16_m,hsf_m,⟨okm383.cur.n,okm383.cur.p⟩,okm383.set,⟨okm383.prom.n,okm383.prom.p⟩,okm383.high,okm383.joined,okm383.len,okm383.oth⟩
 have hs414:=hs407.p3
 have hs415:=hs414.p3
 have okp416:PropOk H379 pz390 sv391 sc392:=⟨⟨hkp389.id.n,hkp389.id.p⟩,hkp389.set,hkp389.who,hkp389.ok,hkp389.hk⟩
 have hs417:=hs415.p3
 have hs418:St H379 _ (row 53 16 v408 ((MB.again (MB.mk m_n m_self cz384 (GViewID.mk ((m_high + 1) % 18446744073709551616) ((m_self:Nat):Int)) ((m_high + 1) % 18446744073709551616) (some pz390) jz385 m_os)).length) cs411::obj g88 39 [.int .u64 ((((m_high + 1) % 18446744073709551616):Nat):Int),.int .i64 ((m_self:Nat):Int),.int .u16 (((wth (est &&& (2 ^ m_n - 1)) ((m_self:Nat):Int)):Nat):Int)]::obj g10 37 (clState sx A6 n7 c8)::obj gp_m 81 (clProp p_m sv_m)::row 37 4 sv_m p_m.states.length sc_m::memR 78 81 37 g_m g355 A386 jn387 jc388 sv391 sc392 (MB.mk m_n m_self cz384 (GViewID.mk ((m_high + 1) % 18446744073709551616) ((m_self:Nat):Int)) ((m_high + 1) % 18446744073709551616) (some pz390) jz385 m_os) ++ (L)):=St.foldS (TP:=81) (TS:=37) (gp:=g355) (sv:=sv391) (sc:=sc392) [row 53 16 v408 ((MB.again (MB.mk m_n m_self cz384 (GViewID.mk ((m_high + 1) % 18446744073709551616) ((m_self:Nat):Int)) ((m_high + 1) % 18446744073709551616) (some pz390) jz385 m_os)).length) cs411,obj g88 39 [.int .u64 ((((m_high + 1) % 18446744073709551616):Nat):Int),.int .i64 ((m_self:Nat):Int),.int .u16 (((wth (est &&& (2 ^ m_n - 1)) ((m_self:Nat):Int)):Nat):Int)],obj g10 37 (clState sx A6 n7 c8),obj gp_m 81 (clProp p_m sv_m),row 37 4 sv_m p_m.states.length sc_m] hs417
 exact ⟨H379,v408,cs411,(.pointer none),(MB.mk m_n m_self cz384 (GViewID.mk ((m_high + 1) % 18446744073709551616) ((m_self:Nat):Int)) ((m_high + 1) % 18446744073709551616) (some pz390) jz385 m_os),g355,A386,jn387,jc388,sv391,sc392,hle380,rfl,ok409,hk412,InstAt.none',(okm413.okS okp416),rfl,((((hs418.p1).drop.p1).drop.p1).drop.p1).drop⟩
 obtain ⟨A423,n424,c425,rfl,b419,⟨b420,b421⟩,b422,hl426⟩:=hrp399
 have:=hl426.len; have:n424 * 48 ≤ 140737488351232:=hl426.bnd; have:=hl426.le
 have hat400:∀ {w:World} {L:List Res},St H379 w L → At w ⟨gi395,0,none⟩ [.int .u64 ((yi394.View.ID.N:Nat):Int),.int .i64 yi394.View.ID.P,.int .u16 ((yi394.View.Set:Nat):Int),.slice A423 n424 c425]:=fun h => hrd398.hat h
 refine st (v:=.bool true) (x_neqP Tryd.underlying28 (.tmp rfl rfl) .const rfl) ?_
 refine c_nil (n_then (c_cond_t (t:=true) (.tmp rfl rfl) rfl ?_))
 refine c_seq (c_region (st (v:=.pointer (some ⟨gi395,0,none⟩)) (x_move (.tmp rfl rfl)) ?_))
 refine st (v:=.slice none 0 0) (x_assign .const) ?_
 refine st (v:=.pointer (some ⟨gi395,0,none⟩)) (x_assign (.tmp rfl rfl)) ?_
 refine c_nil (n_then (c_ret (r_then (leave_ret (res_two (v:=.slice none 0 0) (u:=.pointer (some ⟨gi395,0,none⟩)) rfl (.mk rfl rfl) (.mk rfl rfl)) ?_))))
 have hpq:(MB.tick (MB.mk m_n m_self m_cur m_prom m_high (some p_m) m_jl m_os) est sx) = _:=tick_done rfl hc81 hme393 hX397 rfl
 rw [hpq]
 have hs427:=hs378.krowNil 53 kOut
 have okm429:MemB H379 m_n m_self cz384 (GViewID.mk ((m_high + 1) % 18446744073709551616) ((m_self:Nat):Int)) ((m_high + 1) % 18446744073709551616) A386 jn387 jc388 jz385 m_os:=⟨hn1_m,hn16_m,hsf_m,⟨okm383.cur.n,okm383.cur.p⟩,okm383.set,⟨okm383.prom.n,okm383.prom.p⟩,okm383.high,okm383.joined,okm383.len,okm383.oth⟩
 have hs430:=hs427.p3
 have hs431:=hs430.p3
 have okp432:PropOk H379 pz390 sv391 sc392:=⟨⟨hkp389.id.n,hkp389.id.p⟩,hkp389.set,hkp389.who,hkp389.ok,hkp389.hk⟩
 have hs433:=hs431.p3
 have hs434:St H379 _ (row 53 16 (.slice none 0 0) (([]:List GOut).length) []::obj g88 39 [.int .u64 ((((m_high + 1) % 18446744073709551616):Nat):Int),.int .i64 ((m_self:Nat):Int),.int .u16 (((wth (est &&& (2 ^ m_n - 1)) ((m_self:Nat):Int)):Nat):Int)]::obj g10 37 (clState sx A6 n7 c8)::obj gp_m 81 (clProp p_m sv_m)::row 37 4 sv_m p_m.states.length sc_m::memR 78 81 37 g_m g355 A386 jn387 jc388 sv391 sc392 (MB.mk m_n m_self cz384 (GViewID.mk ((m_high + 1) % 18446744073709551616) ((m_self:Nat):Int)) ((m_high + 1) % 18446744073709551616) (some pz390) jz385 m_os) ++ (L)):=St.foldS (TP:=81) (TS:=37) (gp:=g355) (sv:=sv391) (sc:=sc392) [row 53 16 (.slice none 0 0) (([]:List GOut).length) [],obj g88 39 [.int .u64 ((((m_high + 1) % 18446744073709551616):Nat):Int),.int .i64 ((m_self:Nat):Int),.int .u16 (((wth (est &&& (2 ^ m_n - 1)) ((m_self:Nat):Int)):Nat):Int)],obj g10 37 (clState sx A6 n7 c8),obj gp_m 81 (clProp p_m sv_m),row 37 4 sv_m p_m.states.length sc_m] hs433
 exact ⟨H379,(.slice none 0 0),[],.pointer (some ⟨gi395,0,none⟩),(MB.mk m_n m_self cz384 (GViewID.mk ((m_high + 1) % 18446744073709551616) ((m_self:Nat):Int)) ((m_high + 1) % 18446744073709551616) (some pz390) jz385 m_os),g355,A386,jn387,jc388,sv391,sc392,hle380,rfl,(RowOk.knil kOut),(Kn.rows_nil _ _),(InstAt.some_of rfl hrd398 ⟨A423,n424,c425,rfl,b419,⟨b420,b421⟩,b422,hl426⟩),(okm429.okS okp432),rfl,((((hs434.p1).drop.p1).drop.p1).drop.p1).drop⟩
 refine u_eff (k:=16) rfl ?_
 have hs435:=hs354.p2
 refine st_m0 (sto34 (cs':=((.int .i64 ((m_n:Nat):Int))::(.int .i64 ((m_self:Nat):Int))::(.int .u64 ((m_cur.ID.N:Nat):Int))::(.int .i64 m_cur.ID.P)::(.int .u16 ((m_cur.Set:Nat):Int))::(.int .u64 ((((m_high + 1) % 18446744073709551616):Nat):Int))::(.int .i64 ((m_self:Nat):Int))::(.int .u64 ((((m_high + 1) % 18446744073709551616):Nat):Int))::(.pointer (some ⟨gp_m,0,none⟩))::(.slice A_m jn_m jc_m)::oCells m_os)) (i:=0 + 5) hs435 (v:=.agg #[.int .u64 ((((m_high + 1) % 18446744073709551616):Nat):Int),.int .i64 ((m_self:Nat):Int)]) (.tmp rfl rfl) (.tmp rfl rfl) rfl (Nat.le_of_ble_eq_true rfl) (oneA rfl) rfl) ?_
 rintro w436 hs438
 refine u_new (S':=fun u => St H u (obj g_m 78 ((.int .i64 ((m_n:Nat):Int))::(.int .i64 ((m_self:Nat):Int))::(.int .u64 ((m_cur.ID.N:Nat):Int))::(.int .i64 m_cur.ID.P)::(.int .u16 ((m_cur.Set:Nat):Int))::(.int .u64 ((((m_high + 1) % 18446744073709551616):Nat):Int))::(.int .i64 ((m_self:Nat):Int))::(.int .u64 ((((m_high + 1) % 18446744073709551616):Nat):Int))::(.pointer (some ⟨gp_m,0,none⟩))::(.slice A_m jn_m jc_m)::oCells m_os)::obj g349 37 (clState sx A6 n7 c8)::obj g88 39 [.int .u64 ((((m_high + 1) % 18446744073709551616):Nat):Int),.int .i64 ((m_self:Nat):Int),.int .u16 (((wth (est &&& (2 ^ m_n - 1)) ((m_self:Nat):Int)):Nat):Int)]::obj g10 37 (clState sx A6 n7 c8)::obj gp_m 81 (clProp p_m sv_m)::row 37 4 sv_m p_m.states.length sc_m::L)) rfl (fun u hu => hu.drop.drop) hs438 ?_
 refine u_eff (k:=13) rfl ?_
 refine st_m (m_box (cs:=[.int .u64 ((((m_high + 1) % 18446744073709551616):Nat):Int),.int .i64 ((m_self:Nat):Int),.int .u16 (((wth (est &&& (2 ^ m_n - 1)) ((m_self:Nat):Int)):Nat):Int),.int .u16 (((wth 0 ((m_self:Nat):Int)):Nat):Int),.slice (some ⟨g349,0,none⟩) 1 1,.bool false]) hs438 (v:=.agg #[.int .u64 ((((m_high + 1) % 18446744073709551616):Nat):Int),.int .i64 ((m_self:Nat):Int),.int .u16 (((wth (est &&& (2 ^ m_n - 1)) ((m_self:Nat):Int)):Nat):Int),.int .u16 (((wth 0 ((m_self:Nat):Int)):Nat):Int),.slice (some ⟨g349,0,none⟩) 1 1,.bool false]) (.tmp rfl rfl) rfl) ?_
 rintro _ w440 ⟨g439,rfl,hs442⟩
 refine u_on (S':=fun u => St H u (obj g439 81 [.int .u64 ((((m_high + 1) % 18446744073709551616):Nat):Int),.int .i64 ((m_self:Nat):Int),.int .u16 (((wth (est &&& (2 ^ m_n - 1)) ((m_self:Nat):Int)):Nat):Int),.int .u16 (((wth 0 ((m_self:Nat):Int)):Nat):Int),.slice (some ⟨g349,0,none⟩) 1 1,.bool false]::obj g_m 78 ((.int .i64 ((m_n:Nat):Int))::(.int .i64 ((m_self:Nat):Int))::(.int .u64 ((m_cur.ID.N:Nat):Int))::(.int .i64 m_cur.ID.P)::(.int .u16 ((m_cur.Set:Nat):Int))::(.int .u64 ((((m_high + 1) % 18446744073709551616):Nat):Int))::(.int .i64 ((m_self:Nat):Int))::(.int .u64 ((((m_high + 1) % 18446744073709551616):Nat):Int))::(.pointer (some ⟨gp_m,0,none⟩))::(.slice A_m jn_m jc_m)::oCells m_os)::obj g349 37 (clState sx A6 n7 c8)::obj g88 39 [.int .u64 ((((m_high + 1) % 18446744073709551616):Nat):Int),.int .i64 ((m_self:Nat):Int),.int .u16 (((wth (est &&& (2 ^ m_n - 1)) ((m_self:Nat):Int)):Nat):Int)]::obj g10 37 (clState sx A6 n7 c8)::obj gp_m 81 (clProp p_m sv_m)::row 37 4 sv_m p_m.states.length sc_m::L)) (fun u hu => hu.drop) (fun u hu => hu.drop.drop.drop) hs442 ?_
 refine u_st (k:=17) (v:=.pointer (some ⟨g_m,0,none⟩)) rfl rfl (fun w hs => (x_nilCheck (.tmp rfl rfl))) ?_
 refine u_st (k:=18) (v:=.pointer (some ⟨g_m,0 + 8,none⟩)) rfl rfl (fun w hs => (fa78_5 (.tmp rfl rfl))) ?_
 refine u_eff (k:=19) rfl ?_
 have hs443:=hs442.p1
 refine st_m0 (sto75 (cs':=((.int .i64 ((m_n:Nat):Int))::(.int .i64 ((m_self:Nat):Int))::(.int .u64 ((m_cur.ID.N:Nat):Int))::(.int .i64 m_cur.ID.P)::(.int .u16 ((m_cur.Set:Nat):Int))::(.int .u64 ((((m_high + 1) % 18446744073709551616):Nat):Int))::(.int .i64 ((m_self:Nat):Int))::(.int .u64 ((((m_high + 1) % 18446744073709551616):Nat):Int))::(.pointer (some ⟨g439,0,none⟩))::(.slice A_m jn_m jc_m)::oCells m_os)) (i:=0 + 8) hs443 (v:=.pointer (some ⟨g439,0,none⟩)) (.tmp rfl rfl) (.tmp rfl rfl) rfl (Nat.le_of_ble_eq_true rfl) one1 rfl) ?_
 rintro w444 hs446
 refine u_new (S':=fun u => St H u (obj g_m 78 ((.int .i64 ((m_n:Nat):Int))::(.int .i64 ((m_self:Nat):Int))::(.int .u64 ((m_cur.ID.N:Nat):Int))::(.int .i64 m_cur.ID.P)::(.int .u16 ((m_cur.Set:Nat):Int))::(.int .u64 ((((m_high + 1) % 18446744073709551616):Nat):Int))::(.int .i64 ((m_self:Nat):Int))::(.int .u64 ((((m_high + 1) % 18446744073709551616):Nat):Int))::(.pointer (some ⟨g439,0,none⟩))::(.slice A_m jn_m jc_m)::oCells m_os)::obj g439 81 [.int .u64 ((((m_high + 1) % 18446744073709551616):Nat):Int),.int .i64 ((m_self:Nat):Int),.int .u16 (((wth (est &&& (2 ^ m_n - 1)) ((m_self:Nat):Int)):Nat):Int),.int .u16 (((wth 0 ((m_self:Nat):Int)):Nat):Int),.slice (some ⟨g349,0,none⟩) 1 1,.bool false]::obj g349 37 (clState sx A6 n7 c8)::obj g88 39 [.int .u64 ((((m_high + 1) % 18446744073709551616):Nat):Int),.int .i64 ((m_self:Nat):Int),.int .u16 (((wth (est &&& (2 ^ m_n - 1)) ((m_self:Nat):Int)):Nat):Int)]::obj g10 37 (clState sx A6 n7 c8)::obj gp_m 81 (clProp p_m sv_m)::row 37 4 sv_m p_m.states.length sc_m::L)) rfl (fun u hu => hu.drop.drop.drop) hs446 ?_
 refine u_nil ?_
 refine n_then (c_seq (c_region (st (v:=.pointer (some ⟨g_m,0,none⟩)) (x_move (.tmp rfl hρ76)) ?_)))
 have hs447:=hs446.p2
 have hr452:kState.rep H sx [.int .u64 ((sx.V.N:Nat):Int),.int .i64 sx.V.P,.int .i64 sx.Floor,.slice A6 n7 c8]:=⟨A6,n7,c8,rfl,b1,⟨b2,b3⟩,⟨b4,b5⟩,hl9⟩
 obtain ⟨hs449,ok450⟩:=hs447.rowOfObj (n:=1) (size:=kState.sz) rfl (by decide)
 have hk451:kState.toKn.rows H [sx] [.int .u64 ((sx.V.N:Nat):Int),.int .i64 sx.V.P,.int .i64 sx.Floor,.slice A6 n7 c8]:=Kn.rows_one hr452
 have:([sx]:List GState).length = 1:=rfl
 have hs453:St H _ (row 37 4 (.slice (some ⟨g349,0,none⟩) 1 1) (([sx]:List GState).length) [.int .u64 ((sx.V.N:Nat):Int),.int .i64 sx.V.P,.int .i64 sx.Floor,.slice A6 n7 c8]::obj g_m 78 ((.int .i64 ((m_n:Nat):Int))::(.int .i64 ((m_self:Nat):Int))::(.int .u64 ((m_cur.ID.N:Nat):Int))::(.int .i64 m_cur.ID.P)::(.int .u16 ((m_cur.Set:Nat):Int))::(.int .u64 ((((m_high + 1) % 18446744073709551616):Nat):Int))::(.int .i64 ((m_self:Nat):Int))::(.int .u64 ((((m_high + 1) % 18446744073709551616):Nat):Int))::(.pointer (some ⟨g439,0,none⟩))::(.slice A_m jn_m jc_m)::oCells m_os)::obj g439 81 [.int .u64 ((((m_high + 1) % 18446744073709551616):Nat):Int),.int .i64 ((m_self:Nat):Int),.int .u16 (((wth (est &&& (2 ^ m_n - 1)) ((m_self:Nat):Int)):Nat):Int),.int .u16 (((wth 0 ((m_self:Nat):Int)):Nat):Int),.slice (some ⟨g349,0,none⟩) 1 1,.bool false]::obj g88 39 [.int .u64 ((((m_high + 1) % 18446744073709551616):Nat):Int),.int .i64 ((m_self:Nat):Int),.int .u16 (((wth (est &&& (2 ^ m_n - 1)) ((m_self:Nat):Int)):Nat):Int)]::obj g10 37 (clState sx A6 n7 c8)::obj gp_m 81 (clProp p_m sv_m)::row 37 4 sv_m p_m.states.length sc_m::L):=hs449
 have hs454:=hs453.p2
 have hs455:=hs454.p2
 have okm456:MemB H m_n m_self m_cur (GViewID.mk ((m_high + 1) % 18446744073709551616) ((m_self:Nat):Int)) ((m_high + 1) % 18446744073709551616) A_m jn_m jc_m m_jl m_os:=⟨hn1_m,hn16_m,hsf_m,⟨ok_m.cur.n,ok_m.cur.p⟩,ok_m.set,⟨(Nat.mod_lt _ (by decide)),(show IB ((m_self:Nat):Int) from ⟨by omega,by omega⟩)⟩,(Nat.mod_lt _ (by decide)),ok_m.joined,ok_m.len,ok_m.oth⟩
 have okp457:PropOk H (GProp.mk (GView.mk (GViewID.mk ((m_high + 1) % 18446744073709551616) ((m_self:Nat):Int)) (wth (est &&& (2 ^ m_n - 1)) ((m_self:Nat):Int))) (wth 0 ((m_self:Nat):Int)) ([sx]:List GState) false) (.slice (some ⟨g349,0,none⟩) 1 1) [.int .u64 ((sx.V.N:Nat):Int),.int .i64 sx.V.P,.int .i64 sx.Floor,.slice A6 n7 c8]:=⟨⟨(Nat.mod_lt _ (by decide)),(show IB ((m_self:Nat):Int) from ⟨by omega,by omega⟩)⟩,(wth_lt hb15 ((m_self:Nat):Int)),(wth_lt (by decide) ((m_self:Nat):Int)),ok450,hk451⟩
 refine st_c cb27 .func (evs1 (.tmp rfl rfl)) (agree_S hs455 (p_m:=(GProp.mk (GView.mk (GViewID.mk ((m_high + 1) % 18446744073709551616) ((m_self:Nat):Int)) (wth (est &&& (2 ^ m_n - 1)) ((m_self:Nat):Int))) (wth 0 ((m_self:Nat):Int)) ([sx]:List GState) false)) (m_n:=m_n) (m_self:=m_self) (m_cur:=m_cur) (m_prom:=(GViewID.mk ((m_high + 1) % 18446744073709551616) ((m_self:Nat):Int))) (m_high:=((m_high + 1) % 18446744073709551616)) (m_jl:=m_jl) (m_os:=m_os) okm456 okp457 (by simp) (fun s hs => by rw [List.mem_singleton.1 hs]; exact hfl)) ?_
 rintro e w458 ⟨H460,iv462,cz465,jz466,A467,jn468,jc469,pz471,sv472,sc473,hle461,rfl,hin463,okm464,hkp470,hme474,hs459⟩
 refine ⟨_,rfl,?_⟩
 refine st (v:=iv462) (x_assign (.tmp rfl rfl)) ?_
 refine c_nil (n_then (c_seq (c_region (st (v:=iv462) (x_move (.tmp rfl rfl)) ?_))))
 rcases InstAt.cases hin463 with ⟨hX478,rfl⟩ | ⟨yi475,gi476,ci477,hX478,rfl,hrd479,hrp480⟩
 refine st (v:=.bool false) (x_neqP Tryd.underlying28 (.tmp rfl rfl) .const rfl) ?_
 refine c_nil (n_then (c_cond_f (t:=false) (.tmp rfl rfl) rfl ?_))
 refine c_skip (n_then (c_seq (c_region (st (v:=.pointer (some ⟨g_m,0,none⟩)) (x_move (.tmp rfl hρ76)) ?_))))
 have hs482:=hs459.p2
 have hs483:=hs482.p2
 have hs484:=hs483.p2
 have okm485:MemB H460 m_n m_self cz465 (GViewID.mk ((m_high + 1) % 18446744073709551616) ((m_self:Nat):Int)) ((m_high + 1) % 18446744073709551616) A467 jn468 jc469 jz466 m_os:=⟨hn1_m,hn16_m,hsf_m,⟨okm464.cur.n,okm464.cur.p⟩,okm464.set,⟨okm464.prom.n,okm464.prom.p⟩,okm464.high,okm464.joined,okm464.len,okm464.oth⟩
 have okp486:PropOk H460 pz471 sv472 sc473:=⟨⟨hkp470.id.n,hkp470.id.p⟩,hkp470.set,hkp470.who,hkp470.ok,hkp470.hk⟩
 refine st_c cb28 .func (evs1 (.tmp rfl rfl)) (again_S hs484 (p_m:=pz471) (m_n:=m_n) (m_self:=m_self) (m_cur:=cz465) (m_prom:=(GViewID.mk ((m_high + 1) % 18446744073709551616) ((m_self:Nat):Int))) (m_high:=((m_high + 1) % 18446744073709551616)) (m_jl:=jz466) (m_os:=m_os) okm485 okp486 (htab.mono hle461)) ?_
 rintro e w487 ⟨v489,cs492,rfl,ok490,hk493,hs488⟩
 refine ⟨_,rfl,?_⟩
 refine st (v:=v489) (x_assign (.tmp rfl rfl)) ?_
 refine st (v:=.pointer none) (x_assign .const) ?_
 refine c_nil (n_then (c_ret (leave_ret (res_two (v:=v489) (u:=.pointer none) rfl (.mk rfl rfl) (.mk rfl rfl)) ?_)))
 have hpq:(MB.tick (MB.mk m_n m_self m_cur m_prom m_high (some p_m) m_jl m_os) est sx) = _:=tick_wait rfl hc81 hme474 hX478 rfl
 rw [hpq]
 have okm494:MemB H460 m_n m_self cz465 (GViewID.mk ((m_high + 1) % 18446744073709551616) ((m_self:Nat):Int)) ((m_high + 1) % 18446744073709551616) A467 jn468 jc469 jz466 m_os:=⟨hn1_m,hn16_m,hsf_m,⟨okm464.cur.n,okm464.cur.p⟩,okm464.set,⟨okm464.prom.n,okm464.prom.p⟩,okm464.high,okm464.joined,okm464.len,okm464.oth⟩
 have hs495:=hs488.p3
 have hs496:=hs495.p3
 have okp497:PropOk H460 pz471 sv472 sc473:=⟨⟨hkp470.id.n,hkp470.id.p⟩,hkp470.set,hkp470.who,hkp470.ok,hkp470.hk⟩
 have hs498:=hs496.p3
 have hs499:St H460 _ (row 53 16 v489 ((MB.again (MB.mk m_n m_self cz465 (GViewID.mk ((m_high + 1) % 18446744073709551616) ((m_self:Nat):Int)) ((m_high + 1) % 18446744073709551616) (some pz471) jz466 m_os)).length) cs492::obj g88 39 [.int .u64 ((((m_high + 1) % 18446744073709551616):Nat):Int),.int .i64 ((m_self:Nat):Int),.int .u16 (((wth (est &&& (2 ^ m_n - 1)) ((m_self:Nat):Int)):Nat):Int)]::obj g10 37 (clState sx A6 n7 c8)::obj gp_m 81 (clProp p_m sv_m)::row 37 4 sv_m p_m.states.length sc_m::memR 78 81 37 g_m g439 A467 jn468 jc469 sv472 sc473 (MB.mk m_n m_self cz465 (GViewID.mk ((m_high + 1) % 18446744073709551616) ((m_self:Nat):Int)) ((m_high + 1) % 18446744073709551616) (some pz471) jz466 m_os) ++ (L)):=St.foldS (TP:=81) (TS:=37) (gp:=g439) (sv:=sv472) (sc:=sc473) [row 53 16 v489 ((MB.again (MB.mk m_n m_self cz465 (GViewID.mk ((m_high + 1) % 18446744073709551616) ((m_self:Nat):Int)) ((m_high + 1) % 18446744073709551616) (some pz471) jz466 m_os)).length) cs492,obj g88 39 [.int .u64 ((((m_high + 1) % 18446744073709551616):Nat):Int),.int .i64 ((m_self:Nat):Int),.int .u16 (((wth (est &&& (2 ^ m_n - 1)) ((m_self:Nat):Int)):Nat):Int)],obj g10 37 (clState sx A6 n7 c8),obj gp_m 81 (clProp p_m sv_m),row 37 4 sv_m p_m.states.length sc_m] hs498
 exact ⟨H460,v489,cs492,(.pointer none),(MB.mk m_n m_self cz465 (GViewID.mk ((m_high + 1) % 18446744073709551616) ((m_self:Nat):Int)) ((m_high + 1) % 18446744073709551616) (some pz471) jz466 m_os),g439,A467,jn468,jc469,sv472,sc473,hle461,rfl,ok490,hk493,InstAt.none',(okm494.okS okp497),rfl,((((hs499.p1).drop.p1).drop.p1).drop.p1).drop⟩
 obtain ⟨A504,n505,c506,rfl,b500,⟨b501,b502⟩,b503,hl507⟩:=hrp480
 have:=hl507.len; have:n505 * 48 ≤ 140737488351232:=hl507.bnd; have:=hl507.le
 have hat481:∀ {w:World} {L:List Res},St H460 w L → At w ⟨gi476,0,none⟩ [.int .u64 ((yi475.View.ID.N:Nat):Int),.int .i64 yi475.View.ID.P,.int .u16 ((yi475.View.Set:Nat):Int),.slice A504 n505 c506]:=fun h => hrd479.hat h
 refine st (v:=.bool true) (x_neqP Tryd.underlying28 (.tmp rfl rfl) .const rfl) ?_
 refine c_nil (n_then (c_cond_t (t:=true) (.tmp rfl rfl) rfl ?_))
 refine c_seq (c_region (st (v:=.pointer (some ⟨gi476,0,none⟩)) (x_move (.tmp rfl rfl)) ?_))
 refine st (v:=.slice none 0 0) (x_assign .const) ?_
 refine st (v:=.pointer (some ⟨gi476,0,none⟩)) (x_assign (.tmp rfl rfl)) ?_
 refine c_nil (n_then (c_ret (r_then (leave_ret (res_two (v:=.slice none 0 0) (u:=.pointer (some ⟨gi476,0,none⟩)) rfl (.mk rfl rfl) (.mk rfl rfl)) ?_))))
 have hpq:(MB.tick (MB.mk m_n m_self m_cur m_prom m_high (some p_m) m_jl m_os) est sx) = _:=tick_done rfl hc81 hme474 hX478 rfl
 rw [hpq]
 have hs508:=hs459.krowNil 53 kOut
 have okm510:MemB H460 m_n m_self cz465 (GViewID.mk ((m_high + 1) % 18446744073709551616) ((m_self:Nat):Int)) ((m_high + 1) % 18446744073709551616) A467 jn468 jc469 jz466 m_os:=⟨hn1_m,hn16_m,hsf_m,⟨okm464.cur.n,okm464.cur.p⟩,okm464.set,⟨okm464.prom.n,okm464.prom.p⟩,okm464.high,okm464.joined,okm464.len,okm464.oth⟩
 have hs511:=hs508.p3
 have hs512:=hs511.p3
 have okp513:PropOk H460 pz471 sv472 sc473:=⟨⟨hkp470.id.n,hkp470.id.p⟩,hkp470.set,hkp470.who,hkp470.ok,hkp470.hk⟩
 have hs514:=hs512.p3
 have hs515:St H460 _ (row 53 16 (.slice none 0 0) (([]:List GOut).length) []::obj g88 39 [.int .u64 ((((m_high + 1) % 18446744073709551616):Nat):Int),.int .i64 ((m_self:Nat):Int),.int .u16 (((wth (est &&& (2 ^ m_n - 1)) ((m_self:Nat):Int)):Nat):Int)]::obj g10 37 (clState sx A6 n7 c8)::obj gp_m 81 (clProp p_m sv_m)::row 37 4 sv_m p_m.states.length sc_m::memR 78 81 37 g_m g439 A467 jn468 jc469 sv472 sc473 (MB.mk m_n m_self cz465 (GViewID.mk ((m_high + 1) % 18446744073709551616) ((m_self:Nat):Int)) ((m_high + 1) % 18446744073709551616) (some pz471) jz466 m_os) ++ (L)):=St.foldS (TP:=81) (TS:=37) (gp:=g439) (sv:=sv472) (sc:=sc473) [row 53 16 (.slice none 0 0) (([]:List GOut).length) [],obj g88 39 [.int .u64 ((((m_high + 1) % 18446744073709551616):Nat):Int),.int .i64 ((m_self:Nat):Int),.int .u16 (((wth (est &&& (2 ^ m_n - 1)) ((m_self:Nat):Int)):Nat):Int)],obj g10 37 (clState sx A6 n7 c8),obj gp_m 81 (clProp p_m sv_m),row 37 4 sv_m p_m.states.length sc_m] hs514
 exact ⟨H460,(.slice none 0 0),[],.pointer (some ⟨gi476,0,none⟩),(MB.mk m_n m_self cz465 (GViewID.mk ((m_high + 1) % 18446744073709551616) ((m_self:Nat):Int)) ((m_high + 1) % 18446744073709551616) (some pz471) jz466 m_os),g439,A467,jn468,jc469,sv472,sc473,hle461,rfl,(RowOk.knil kOut),(Kn.rows_nil _ _),(InstAt.some_of rfl hrd479 ⟨A504,n505,c506,rfl,b500,⟨b501,b502⟩,b503,hl507⟩),(okm510.okS okp513),rfl,((((hs515.p1).drop.p1).drop.p1).drop.p1).drop⟩
 have hp81:¬ (((((least (wth (est &&& (2 ^ m_n - 1)) ((m_self:Nat):Int))):Int) = ((m_self:Nat):Int))∧((MB.need (MB.mk m_n m_self m_cur m_prom m_high (some p_m) m_jl m_os) (wth (est &&& (2 ^ m_n - 1)) ((m_self:Nat):Int))) = true))∧(¬ ((MB.under (MB.mk m_n m_self m_cur m_prom m_high (some p_m) m_jl m_os) (wth (est &&& (2 ^ m_n - 1)) ((m_self:Nat):Int))) = true))):=J_no (J_and (J_and decide_eq_true_iff Iff.rfl) (J_not Iff.rfl)) hc81
 refine c_cond_f (t:=false) (.tmp rfl (hρ75.trans (cVb hc81))) rfl ?_
 refine c_skip (n_then (c_seq (c_region (st (v:=.pointer (some ⟨g_m,0,none⟩)) (x_move (.tmp rfl hρ76)) ?_))))
 have hs516:=hs80.p3
 have hs517:=hs516.p3
 have hs518:=hs517.p3
 have okm519:MemB H m_n m_self m_cur m_prom m_high A_m jn_m jc_m m_jl m_os:=⟨hn1_m,hn16_m,hsf_m,⟨ok_m.cur.n,ok_m.cur.p⟩,ok_m.set,⟨ok_m.prom.n,ok_m.prom.p⟩,ok_m.high,ok_m.joined,ok_m.len,ok_m.oth⟩
 have okp520:PropOk H p_m sv_m sc_m:=⟨⟨hk_m.id.n,hk_m.id.p⟩,hk_m.set,hk_m.who,hk_m.ok,hk_m.hk⟩
 refine st_c cb28 .func (evs1 (.tmp rfl rfl)) (again_S hs518 (p_m:=p_m) (m_n:=m_n) (m_self:=m_self) (m_cur:=m_cur) (m_prom:=m_prom) (m_high:=m_high) (m_jl:=m_jl) (m_os:=m_os) okm519 okp520 htab) ?_
 rintro e w521 ⟨v523,cs526,rfl,ok524,hk527,hs522⟩
 refine ⟨_,rfl,?_⟩
 refine st (v:=v523) (x_assign (.tmp rfl rfl)) ?_
 refine st (v:=.pointer none) (x_assign .const) ?_
 refine c_nil (n_then (c_ret (leave_ret (res_two (v:=v523) (u:=.pointer none) rfl (.mk rfl rfl) (.mk rfl rfl)) ?_)))
 have hpq:(MB.tick (MB.mk m_n m_self m_cur m_prom m_high (some p_m) m_jl m_os) est sx) = _:=tick_stay rfl hc81
 rw [hpq]
 have okm528:MemB H m_n m_self m_cur m_prom m_high A_m jn_m jc_m m_jl m_os:=⟨hn1_m,hn16_m,hsf_m,⟨ok_m.cur.n,ok_m.cur.p⟩,ok_m.set,⟨ok_m.prom.n,ok_m.prom.p⟩,ok_m.high,ok_m.joined,ok_m.len,ok_m.oth⟩
 have hs529:=hs522.p3
 have hs530:=hs529.p3
 have okp531:PropOk H p_m sv_m sc_m:=⟨⟨hk_m.id.n,hk_m.id.p⟩,hk_m.set,hk_m.who,hk_m.ok,hk_m.hk⟩
 have hs532:=hs530.p3
 have hs533:St H _ (row 53 16 v523 ((MB.again (MB.mk m_n m_self m_cur m_prom m_high (some p_m) m_jl m_os)).length) cs526::obj g10 37 (clState sx A6 n7 c8)::memR 78 81 37 g_m gp_m A_m jn_m jc_m sv_m sc_m (MB.mk m_n m_self m_cur m_prom m_high (some p_m) m_jl m_os) ++ (L)):=St.foldS (TP:=81) (TS:=37) (gp:=gp_m) (sv:=sv_m) (sc:=sc_m) [row 53 16 v523 ((MB.again (MB.mk m_n m_self m_cur m_prom m_high (some p_m) m_jl m_os)).length) cs526,obj g10 37 (clState sx A6 n7 c8)] hs532
 exact ⟨H,v523,cs526,(.pointer none),(MB.mk m_n m_self m_cur m_prom m_high (some p_m) m_jl m_os),gp_m,A_m,jn_m,jc_m,sv_m,sc_m,(Hp.le.refl _),rfl,ok524,hk527,InstAt.none',(okm528.okS okp531),rfl,(hs533.p1).drop⟩
end Go.Proofs.YtcccaihjgoaehaaDoor
