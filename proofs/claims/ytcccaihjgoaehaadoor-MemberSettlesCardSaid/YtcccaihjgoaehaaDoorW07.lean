/- Steps of the proofs over the functions of this seat, printed by a program (gen.py) and checked by Lean. -/
import Derived.Test.YtcccaihjgoaehaaDoorW01
import Derived.Test.YtcccaihjgoaehaaDoorW00
import Derived.Test.YtcccaihjgoaehaaDoorW06
set_option linter.unusedVariables false
set_option linter.unusedSimpArgs false
namespace Go.Proofs.YtcccaihjgoaehaaDoor
open Go Go.FM Go.Proofs
attribute [local irreducible] wpList wpQuiet wpS Code.wp Calls
set_option maxHeartbeats 8000000 in
theorem tick_N {H:Hp} {w:World} {L:List Res} {g_m m_n m_self m_high:Nat} {m_cur:GView} {m_prom:GViewID} {m_jl:List GState} {m_os:List (GViewID × GViewID)} {A_m:Option Addr} {jn_m jc_m:Nat} (hs:St H w (obj g_m 78 ((.int .i64 ((m_n:Nat):Int))::(.int .i64 ((m_self:Nat):Int))::(.int .u64 ((m_cur.ID.N:Nat):Int))::(.int .i64 m_cur.ID.P)::(.int .u16 ((m_cur.Set:Nat):Int))::(.int .u64 ((m_prom.N:Nat):Int))::(.int .i64 m_prom.P)::(.int .u64 ((m_high:Nat):Int))::(.pointer none)::(.slice A_m jn_m jc_m)::oCells m_os)::L)) (ok_m:MemB H m_n m_self m_cur m_prom m_high A_m jn_m jc_m m_jl m_os) (est:Nat) (b_est:est < 65536) (sx:GState) {k_sx:List Value} (h_sx:kState.rep H sx k_sx) (hfl:0 ≤ sx.Floor∧sx.Floor ≤ 1073741824) (htab:Tab H):Calls Tryd.prog 12 #[.pointer (some ⟨g_m,0,none⟩),.int .u16 ((est:Nat):Int),.agg k_sx.toArray] w (fun e w' => ∃ (H':Hp) (v0:Value) (cs0:List Value) (iv1:Value) (m':MB) (gp_m':Nat) (A_m':Option Addr) (jn_m' jc_m':Nat) (sv_m':Value) (sc_m':List Value),H.le H'∧e = .returned (.tuple #[v0,iv1])∧RowOk kOut.sz v0 ((MB.tick (MB.mk m_n m_self m_cur m_prom m_high none m_jl m_os) est sx).2.1).length cs0∧kOut.toKn.rows H' ((MB.tick (MB.mk m_n m_self m_cur m_prom m_high none m_jl m_os) est sx).2.1) cs0∧InstAt H' ((MB.tick (MB.mk m_n m_self m_cur m_prom m_high none m_jl m_os) est sx).2.2) iv1∧MemOk H' m' A_m' jn_m' jc_m' sv_m' sc_m'∧m' = (MB.tick (MB.mk m_n m_self m_cur m_prom m_high none m_jl m_os) est sx).1∧St H' w' (row 53 kOut.sz v0 ((MB.tick (MB.mk m_n m_self m_cur m_prom m_high none m_jl m_os) est sx).2.1).length cs0::memR 78 81 37 g_m gp_m' A_m' jn_m' jc_m' sv_m' sc_m' m' ++ (L))):=by
 have hn1_m:1 ≤ m_n:=ok_m.n1
 have hn16_m:m_n ≤ 16:=ok_m.n16
 have hsf_m:m_self < m_n:=ok_m.self
 have hol_m:m_os.length = 16:=ok_m.len
 have hhi_m:m_high < 18446744073709551616:=ok_m.high
 obtain ⟨A6,n7,c8,rfl,b1,⟨b2,b3⟩,⟨b4,b5⟩,hl9⟩:=h_sx
 have:=hl9.len; have:n7 * 32 ≤ 140737488351232:=hl9.bnd; have:=hl9.le
 refine enter (args:=[.pointer (some ⟨g_m,0,none⟩),.int .u16 ((est:Nat):Int),.agg #[.int .u64 ((sx.V.N:Nat):Int),.int .i64 sx.V.P,.int .i64 sx.Floor,.slice A6 n7 c8]]) (N:=168) Tryd.func12 rfl rfl rfl ?_
 refine c_seq (c_region (st_m (m_box (cs:=[.int .u64 ((sx.V.N:Nat):Int),.int .i64 sx.V.P,.int .i64 sx.Floor,.slice A6 n7 c8]) hs (v:=.agg #[.int .u64 ((sx.V.N:Nat):Int),.int .i64 sx.V.P,.int .i64 sx.Floor,.slice A6 n7 c8]) (.tmp rfl rfl) rfl) ?_))
 rintro _ w11 ⟨g10,rfl,hs13⟩
 refine st (v:=.slice none 0 0) (x_assign .const) ?_
 refine st (v:=.pointer none) (x_assign .const) ?_
 refine c_nil (n_then (c_seq (c_seq (c_region (st (v:=.pointer (some ⟨g_m,0,none⟩)) (x_move (.tmp rfl rfl)) ?_)))))
 refine st (v:=.bool false) (x_eqlP Tryd.underlying23 (.tmp rfl rfl) .const rfl) ?_
 refine c_nil (n_then (c_cond_f (t:=false) (.tmp rfl rfl) rfl ?_))
 refine c_skip (n_then (c_seq (q_region mixed hs13 (by kernel_rfl) ?_)))
 refine q_st (v:=.int .u16 ((est:Nat):Int)) (fun w hs => (x_move (.tmp rfl rfl))) ?_
 refine q_st (v:=.pointer (some ⟨g_m,0,none⟩)) (fun w hs => (x_move (.tmp rfl rfl))) ?_
 refine q_st (v:=.pointer (some ⟨g_m,0,none⟩)) (fun w hs => (x_nilCheck (.tmp rfl rfl))) ?_
 refine q_st (v:=.pointer (some ⟨g_m,0 + 0,none⟩)) (fun w hs => (fa78_0 (.tmp rfl rfl))) ?_
 refine q_st (v:=.int .i64 ((m_n:Nat):Int)) (fun w hs => (ld3 (.tmp rfl rfl) (hs.cell 1 rfl (0 + 0) rfl))) ?_
 have hb14:(1 * 2 ^ m_n % 65536) < 65536:=Nat.mod_lt _ (by decide)
 refine q_st (v:=.int .u16 (((1 * 2 ^ m_n % 65536):Nat):Int)) (fun w hs => (x_shl (k:=.u16) (m:=1) (b:=((m_n:Nat):Int)) rfl .const (.tmp rfl rfl) (by omega))) ?_
 have hal:=all_sub (k:=m_n) (by omega) (by omega)
 refine q_st (v:=.int .u16 (((2 ^ m_n - 1):Nat):Int)) (fun w hs => (x_sub (k:=.u16) (a:=(((1 * 2 ^ m_n % 65536):Nat):Int)) (b:=1) (.tmp rfl rfl) .const ((wrapU _ rfl _).trans (by rw [show (2 ^ IntKind.u16.bits:Int) = 65536 from rfl,hal.1]; rfl)))) ?_
 have hb15:(est &&& (2 ^ m_n - 1)) < 65536:=Nat.lt_of_le_of_lt Nat.and_le_left b_est
 refine q_st (v:=.int .u16 (((est &&& (2 ^ m_n - 1)):Nat):Int)) (fun w hs => (x_and (k:=.u16) (m:=est) (n:=(2 ^ m_n - 1)) rfl (.tmp rfl rfl) (.tmp rfl rfl) (show _ < 2 ^ 16 from b_est) (show _ < 2 ^ 16 from hal.2))) ?_
 refine q_st (v:=.pointer (some ⟨g_m,0,none⟩)) (fun w hs => (x_move (.tmp rfl rfl))) ?_
 refine q_st (v:=.pointer (some ⟨g_m,0,none⟩)) (fun w hs => (x_nilCheck (.tmp rfl rfl))) ?_
 refine q_st (v:=.pointer (some ⟨g_m,0 + 1,none⟩)) (fun w hs => (fa78_1 (.tmp rfl rfl))) ?_
 refine q_st (v:=.int .i64 ((m_self:Nat):Int)) (fun w hs => (ld3 (.tmp rfl rfl) (hs.cell 1 rfl (0 + 1) rfl))) ?_
 refine q_c (v:=.int .u16 (((wth (est &&& (2 ^ m_n - 1)) ((m_self:Nat):Int)):Nat):Int)) cb24 .func (evs2 (.tmp rfl rfl) (.tmp rfl rfl)) (fun w hs => with_spec hs (est &&& (2 ^ m_n - 1)) ((m_self:Nat):Int) hb15 (by omega)) ?_
 refine q_st (v:=.int .u16 (((wth (est &&& (2 ^ m_n - 1)) ((m_self:Nat):Int)):Nat):Int)) (fun w hs => (x_assign (.tmp rfl rfl))) ?_
 refine q_nil ?_
 intro w hs16
 refine n_then (c_seq (c_region (st (v:=.pointer (some ⟨g_m,0,none⟩)) (x_move (.tmp rfl rfl)) ?_)))
 refine st (v:=.pointer (some ⟨g_m,0,none⟩)) (x_nilCheck (.tmp rfl rfl)) ?_
 refine st (v:=.pointer (some ⟨g_m,0 + 8,none⟩)) (fa78_5 (.tmp rfl rfl)) ?_
 refine st (v:=.pointer none) (ld75 (.tmp rfl rfl) (hs16.cell 1 rfl (0 + 8) rfl)) ?_
 refine st (v:=.pointer none) (x_assign (.tmp rfl rfl)) ?_
 refine c_nil (n_then (c_seq (q_region mixed hs16 (by kernel_rfl) ?_)))
 refine q_st (v:=.pointer (some ⟨g_m,0,none⟩)) (fun w hs => (x_move (.tmp rfl rfl))) ?_
 refine q_st (v:=.pointer (some ⟨g_m,0,none⟩)) (fun w hs => (x_nilCheck (.tmp rfl rfl))) ?_
 refine q_st (v:=.pointer (some ⟨g_m,0 + 2,none⟩)) (fun w hs => (fa78_2 (.tmp rfl rfl))) ?_
 refine q_st (v:=.pointer (some ⟨g_m,0 + 2 + 0,none⟩)) (fun w hs => (fa39_0 (.tmp rfl rfl))) ?_
 refine q_st (v:=.agg #[.int .u64 ((m_cur.ID.N:Nat):Int),.int .i64 m_cur.ID.P]) (fun w hs => (ld34 (cs:=[.int .u64 ((m_cur.ID.N:Nat):Int),.int .i64 m_cur.ID.P]) (.tmp rfl rfl) (hs.at_ 1 rfl (0 + 2 + 0) rfl) rfl)) ?_
 refine q_st (v:=.pointer (some ⟨g_m,0,none⟩)) (fun w hs => (x_move (.tmp rfl rfl))) ?_
 refine q_st (v:=.pointer (some ⟨g_m,0,none⟩)) (fun w hs => (x_nilCheck (.tmp rfl rfl))) ?_
 refine q_st (v:=.pointer (some ⟨g_m,0 + 5,none⟩)) (fun w hs => (fa78_3 (.tmp rfl rfl))) ?_
 refine q_st (v:=.agg #[.int .u64 ((m_prom.N:Nat):Int),.int .i64 m_prom.P]) (fun w hs => (ld34 (cs:=[.int .u64 ((m_prom.N:Nat):Int),.int .i64 m_prom.P]) (.tmp rfl rfl) (hs.at_ 1 rfl (0 + 5) rfl) rfl)) ?_
 refine q_st (v:=.bool (!((((m_cur.ID.N:Nat):Int) == ((m_prom.N:Nat):Int)) && ((m_cur.ID.P == m_prom.P) && true)))) (fun w hs => (x_neqA eqg34 (.tmp rfl rfl) (.tmp rfl rfl) (fun d => eqs34 (d + 98) _ ((m_cur.ID.N:Nat):Int) ((m_prom.N:Nat):Int) m_cur.ID.P m_prom.P))) ?_
 refine q_st (v:=.bool (!(decide (m_cur.ID = m_prom)))) (fun w hs => (x_move (.tmp rfl (congrArg (fun z => Value.bool (!z)) (GViewID.beq_dec m_cur.ID m_prom))))) ?_
 refine jq 8 (fun ρ => ρ 50 = .bool ((!(decide (m_cur.ID = m_prom))) || (decide ((((m_cur.ID.N:Nat):Int):Int) = 0)))∧ρ 0 = .pointer (some ⟨g_m,0,none⟩)∧ρ 1 = .int .u16 (((wth (est &&& (2 ^ m_n - 1)) ((m_self:Nat):Int)):Nat):Int)∧ρ 5 = .pointer (some ⟨g10,0,none⟩)∧ρ 8 = .pointer none∧True) ?_ ?_
 rcases Bool.eq_false_or_eq_true (decide (m_cur.ID = m_prom)) with hc17 | hc17
 have hp17:m_cur.ID = m_prom:=of_decide_eq_true hc17
 refine q_yes (yl (dj:=42) (b:=false) rfl rfl (cVb (by rw [hc17]; rfl))) ?_
 refine q_st (v:=.pointer (some ⟨g_m,0,none⟩)) (fun w hs => (x_move (.tmp rfl rfl))) ?_
 refine q_yes (yl (dj:=42) (b:=false) rfl rfl (cVb (by rw [hc17]; rfl))) ?_
 refine q_st (v:=.pointer (some ⟨g_m,0,none⟩)) (fun w hs => (x_nilCheck (.tmp rfl rfl))) ?_
 refine q_yes (yl (dj:=42) (b:=false) rfl rfl (cVb (by rw [hc17]; rfl))) ?_
 refine q_st (v:=.pointer (some ⟨g_m,0 + 2,none⟩)) (fun w hs => (fa78_2 (.tmp rfl rfl))) ?_
 refine q_yes (yl (dj:=42) (b:=false) rfl rfl (cVb (by rw [hc17]; rfl))) ?_
 refine q_st (v:=.pointer (some ⟨g_m,0 + 2 + 0,none⟩)) (fun w hs => (fa39_0 (.tmp rfl rfl))) ?_
 refine q_yes (yl (dj:=42) (b:=false) rfl rfl (cVb (by rw [hc17]; rfl))) ?_
 refine q_st (v:=.pointer (some ⟨g_m,0 + 2 + 0 + 0,none⟩)) (fun w hs => (fa34_0 (.tmp rfl rfl))) ?_
 refine q_yes (yl (dj:=42) (b:=false) rfl rfl (cVb (by rw [hc17]; rfl))) ?_
 refine q_st (v:=.int .u64 ((m_cur.ID.N:Nat):Int)) (fun w hs => (ld32 (.tmp rfl rfl) (hs.cell 1 rfl (0 + 2 + 0 + 0) rfl))) ?_
 refine q_yes (yl (dj:=42) (b:=false) rfl rfl (cVb (by rw [hc17]; rfl))) ?_
 refine q_st (v:=.bool (decide ((((m_cur.ID.N:Nat):Int):Int) = 0))) (fun w hs => (x_eql (k:=.u64) (a:=((m_cur.ID.N:Nat):Int)) (b:=0) (.tmp rfl rfl) .const)) ?_
 refine q_st (v:=.bool (decide ((((m_cur.ID.N:Nat):Int):Int) = 0))) (fun w hs => (x_pick_f (.tmp rfl (cVb (by rw [hc17]; rfl))) (.tmp rfl rfl))) ?_
 exact jq_end ⟨(cVb (jor_f (by rw [hc17]; rfl))),rfl,rfl,rfl,rfl,True.intro⟩
 have hp17:¬ (m_cur.ID = m_prom):=of_decide_eq_false hc17
 refine q_no (yl (dj:=42) (b:=true) rfl rfl (cVb (by rw [hc17]; rfl))) rfl ?_
 refine q_no (yl (dj:=42) (b:=true) rfl rfl (cVb (by rw [hc17]; rfl))) rfl ?_
 refine q_no (yl (dj:=42) (b:=true) rfl rfl (cVb (by rw [hc17]; rfl))) rfl ?_
 refine q_no (yl (dj:=42) (b:=true) rfl rfl (cVb (by rw [hc17]; rfl))) rfl ?_
 refine q_no (yl (dj:=42) (b:=true) rfl rfl (cVb (by rw [hc17]; rfl))) rfl ?_
 refine q_no (yl (dj:=42) (b:=true) rfl rfl (cVb (by rw [hc17]; rfl))) rfl ?_
 refine q_no (yl (dj:=42) (b:=true) rfl rfl (cVb (by rw [hc17]; rfl))) rfl ?_
 refine q_st (v:=.bool true) (fun w hs => (x_pick_t (.tmp rfl (cVb (by rw [hc17]; rfl))) .const)) ?_
 exact jq_end ⟨(cVb (jor_t (by rw [hc17]; rfl))),rfl,rfl,rfl,rfl,True.intro⟩
 rintro ρ ⟨hρ18,hρ19,hρ20,hρ21,hρ22,_⟩
 refine q_st (v:=.bool ((!(decide (m_cur.ID = m_prom))) || (decide ((((m_cur.ID.N:Nat):Int):Int) = 0)))) (fun w hs => (x_move (.tmp rfl hρ18))) ?_
 refine jq 8 (fun ρ => ρ 59 = .bool (((!(decide (m_cur.ID = m_prom))) || (decide ((((m_cur.ID.N:Nat):Int):Int) = 0))) || (decide (((((wth (est &&& (2 ^ m_n - 1)) ((m_self:Nat):Int)):Nat):Int):Int) ≠ ((m_cur.Set:Nat):Int))))∧ρ 0 = .pointer (some ⟨g_m,0,none⟩)∧ρ 1 = .int .u16 (((wth (est &&& (2 ^ m_n - 1)) ((m_self:Nat):Int)):Nat):Int)∧ρ 5 = .pointer (some ⟨g10,0,none⟩)∧ρ 8 = .pointer none∧True) ?_ ?_
 rcases Bool.eq_false_or_eq_true ((!(decide (m_cur.ID = m_prom))) || (decide ((((m_cur.ID.N:Nat):Int):Int) = 0))) with hc24 | hc24
 have hp24:(¬ (m_cur.ID = m_prom)) ∨ ((((m_cur.ID.N:Nat):Int):Int) = 0):=((J_or (J_not decide_eq_true_iff) decide_eq_true_iff)).1 hc24
 refine q_no (yk 51 true rfl rfl hc24) rfl ?_
 refine q_no (yk 51 true rfl rfl hc24) rfl ?_
 refine q_no (yk 51 true rfl rfl hc24) rfl ?_
 refine q_no (yk 51 true rfl rfl hc24) rfl ?_
 refine q_no (yk 51 true rfl rfl hc24) rfl ?_
 refine q_no (yk 51 true rfl rfl hc24) rfl ?_
 refine q_no (yk 51 true rfl rfl hc24) rfl ?_
 refine q_st (v:=.bool true) (fun w hs => (x_pick_t (.tmp rfl (cVb hc24)) .const)) ?_
 exact jq_end ⟨(cVb (jor_t hc24)),hρ19,hρ20,hρ21,hρ22,True.intro⟩
 have hp24:¬ ((¬ (m_cur.ID = m_prom)) ∨ ((((m_cur.ID.N:Nat):Int):Int) = 0)):=J_no (J_or (J_not decide_eq_true_iff) decide_eq_true_iff) hc24
 refine q_yes (yk 51 false rfl rfl hc24) ?_
 refine q_st (v:=.int .u16 (((wth (est &&& (2 ^ m_n - 1)) ((m_self:Nat):Int)):Nat):Int)) (fun w hs => (x_move (.tmp rfl hρ20))) ?_
 refine q_yes (yk 51 false rfl rfl hc24) ?_
 refine q_st (v:=.pointer (some ⟨g_m,0,none⟩)) (fun w hs => (x_move (.tmp rfl hρ19))) ?_
 refine q_yes (yk 51 false rfl rfl hc24) ?_
 refine q_st (v:=.pointer (some ⟨g_m,0,none⟩)) (fun w hs => (x_nilCheck (.tmp rfl rfl))) ?_
 refine q_yes (yk 51 false rfl rfl hc24) ?_
 refine q_st (v:=.pointer (some ⟨g_m,0 + 2,none⟩)) (fun w hs => (fa78_2 (.tmp rfl rfl))) ?_
 refine q_yes (yk 51 false rfl rfl hc24) ?_
 refine q_st (v:=.pointer (some ⟨g_m,0 + 2 + 2,none⟩)) (fun w hs => (fa39_1 (.tmp rfl rfl))) ?_
 refine q_yes (yk 51 false rfl rfl hc24) ?_
 refine q_st (v:=.int .u16 ((m_cur.Set:Nat):Int)) (fun w hs => (ld31 (.tmp rfl rfl) (hs.cell 1 rfl (0 + 2 + 2) rfl))) ?_
 refine q_yes (yk 51 false rfl rfl hc24) ?_
 refine q_st (v:=.bool (decide (((((wth (est &&& (2 ^ m_n - 1)) ((m_self:Nat):Int)):Nat):Int):Int) ≠ ((m_cur.Set:Nat):Int)))) (fun w hs => (x_neq (k:=.u16) (a:=(((wth (est &&& (2 ^ m_n - 1)) ((m_self:Nat):Int)):Nat):Int)) (b:=((m_cur.Set:Nat):Int)) (.tmp rfl rfl) (.tmp rfl rfl))) ?_
 refine q_st (v:=.bool (decide (((((wth (est &&& (2 ^ m_n - 1)) ((m_self:Nat):Int)):Nat):Int):Int) ≠ ((m_cur.Set:Nat):Int)))) (fun w hs => (x_pick_f (.tmp rfl (cVb hc24)) (.tmp rfl rfl))) ?_
 exact jq_end ⟨(cVb (jor_f hc24)),hρ19,hρ20,hρ21,hρ22,True.intro⟩
 rintro ρ ⟨hρ25,hρ26,hρ27,hρ28,hρ29,_⟩
 refine q_st (v:=.bool (((!(decide (m_cur.ID = m_prom))) || (decide ((((m_cur.ID.N:Nat):Int):Int) = 0))) || (decide (((((wth (est &&& (2 ^ m_n - 1)) ((m_self:Nat):Int)):Nat):Int):Int) ≠ ((m_cur.Set:Nat):Int))))) (fun w hs => (x_move (.tmp rfl hρ25))) ?_
 refine jq 9 (fun ρ => ρ 69 = .bool ((((!(decide (m_cur.ID = m_prom))) || (decide ((((m_cur.ID.N:Nat):Int):Int) = 0))) || (decide (((((wth (est &&& (2 ^ m_n - 1)) ((m_self:Nat):Int)):Nat):Int):Int) ≠ ((m_cur.Set:Nat):Int)))) || (MB.ahead (MB.mk m_n m_self m_cur m_prom m_high none m_jl m_os) (wth (est &&& (2 ^ m_n - 1)) ((m_self:Nat):Int)) m_cur.ID))∧ρ 0 = .pointer (some ⟨g_m,0,none⟩)∧ρ 1 = .int .u16 (((wth (est &&& (2 ^ m_n - 1)) ((m_self:Nat):Int)):Nat):Int)∧ρ 5 = .pointer (some ⟨g10,0,none⟩)∧ρ 8 = .pointer none∧True) ?_ ?_
 rcases Bool.eq_false_or_eq_true (((!(decide (m_cur.ID = m_prom))) || (decide ((((m_cur.ID.N:Nat):Int):Int) = 0))) || (decide (((((wth (est &&& (2 ^ m_n - 1)) ((m_self:Nat):Int)):Nat):Int):Int) ≠ ((m_cur.Set:Nat):Int)))) with hc31 | hc31
 have hp31:((¬ (m_cur.ID = m_prom)) ∨ ((((m_cur.ID.N:Nat):Int):Int) = 0)) ∨ (((((wth (est &&& (2 ^ m_n - 1)) ((m_self:Nat):Int)):Nat):Int):Int) ≠ ((m_cur.Set:Nat):Int)):=((J_or (J_or (J_not decide_eq_true_iff) decide_eq_true_iff) decide_eq_true_iff)).1 hc31
 refine q_no (yk 60 true rfl rfl hc31) rfl ?_
 refine q_no (yk 60 true rfl rfl hc31) rfl ?_
 refine q_no (yk 60 true rfl rfl hc31) rfl ?_
 refine q_no (yk 60 true rfl rfl hc31) rfl ?_
 refine q_no (yk 60 true rfl rfl hc31) rfl ?_
 refine q_no (yk 60 true rfl rfl hc31) rfl ?_
 refine q_no (yk 60 true rfl rfl hc31) rfl ?_
 refine q_no (yk 60 true rfl rfl hc31) rfl ?_
 refine q_st (v:=.bool true) (fun w hs => (x_pick_t (.tmp rfl (cVb hc31)) .const)) ?_
 exact jq_end ⟨(cVb (jor_t hc31)),hρ26,hρ27,hρ28,hρ29,True.intro⟩
 have hp31:¬ (((¬ (m_cur.ID = m_prom)) ∨ ((((m_cur.ID.N:Nat):Int):Int) = 0)) ∨ (((((wth (est &&& (2 ^ m_n - 1)) ((m_self:Nat):Int)):Nat):Int):Int) ≠ ((m_cur.Set:Nat):Int))):=J_no (J_or (J_or (J_not decide_eq_true_iff) decide_eq_true_iff) decide_eq_true_iff) hc31
 refine q_yes (yk 60 false rfl rfl hc31) ?_
 refine q_st (v:=.pointer (some ⟨g_m,0,none⟩)) (fun w hs => (x_move (.tmp rfl hρ26))) ?_
 refine q_yes (yk 60 false rfl rfl hc31) ?_
 refine q_st (v:=.int .u16 (((wth (est &&& (2 ^ m_n - 1)) ((m_self:Nat):Int)):Nat):Int)) (fun w hs => (x_move (.tmp rfl hρ27))) ?_
 refine q_yes (yk 60 false rfl rfl hc31) ?_
 refine q_st (v:=.pointer (some ⟨g_m,0,none⟩)) (fun w hs => (x_move (.tmp rfl hρ26))) ?_
 refine q_yes (yk 60 false rfl rfl hc31) ?_
 refine q_st (v:=.pointer (some ⟨g_m,0,none⟩)) (fun w hs => (x_nilCheck (.tmp rfl rfl))) ?_
 refine q_yes (yk 60 false rfl rfl hc31) ?_
 refine q_st (v:=.pointer (some ⟨g_m,0 + 2,none⟩)) (fun w hs => (fa78_2 (.tmp rfl rfl))) ?_
 refine q_yes (yk 60 false rfl rfl hc31) ?_
 refine q_st (v:=.pointer (some ⟨g_m,0 + 2 + 0,none⟩)) (fun w hs => (fa39_0 (.tmp rfl rfl))) ?_
 refine q_yes (yk 60 false rfl rfl hc31) ?_
 refine q_st (v:=.agg #[.int .u64 ((m_cur.ID.N:Nat):Int),.int .i64 m_cur.ID.P]) (fun w hs => (ld34 (cs:=[.int .u64 ((m_cur.ID.N:Nat):Int),.int .i64 m_cur.ID.P]) (.tmp rfl rfl) (hs.at_ 1 rfl (0 + 2 + 0) rfl) rfl)) ?_
 refine q_yes (yk 60 false rfl rfl hc31) ?_
 have okm32:MemB H m_n m_self m_cur m_prom m_high A_m jn_m jc_m m_jl m_os:=⟨hn1_m,hn16_m,hsf_m,⟨ok_m.cur.n,ok_m.cur.p⟩,ok_m.set,⟨ok_m.prom.n,ok_m.prom.p⟩,ok_m.high,ok_m.joined,ok_m.len,ok_m.oth⟩
 refine q_c (v:=.bool (MB.ahead (MB.mk m_n m_self m_cur m_prom m_high none m_jl m_os) (wth (est &&& (2 ^ m_n - 1)) ((m_self:Nat):Int)) m_cur.ID)) cb25 .func (evs3 (.tmp rfl rfl) (.tmp rfl rfl) (.tmp rfl rfl)) (fun w hs => calls_back (ahead_X (hs.p1) (m_prop:=none) (m_n:=m_n) (m_self:=m_self) (m_cur:=m_cur) (m_prom:=m_prom) (m_high:=m_high) (m_jl:=m_jl) (m_os:=m_os) okm32 (wth (est &&& (2 ^ m_n - 1)) ((m_self:Nat):Int)) (wth_lt hb15 ((m_self:Nat):Int)) m_cur.ID (k_v:=[.int .u64 ((m_cur.ID.N:Nat):Int),.int .i64 m_cur.ID.P]) ⟨rfl,ok_m.cur.n,ok_m.cur.p⟩ htab) (fun w h => h.unpick 1 rfl rfl)) ?_
 refine q_st (v:=.bool (MB.ahead (MB.mk m_n m_self m_cur m_prom m_high none m_jl m_os) (wth (est &&& (2 ^ m_n - 1)) ((m_self:Nat):Int)) m_cur.ID)) (fun w hs => (x_pick_f (.tmp rfl (cVb hc31)) (.tmp rfl rfl))) ?_
 exact jq_end ⟨(cVb (jor_f hc31)),hρ26,hρ27,hρ28,hρ29,True.intro⟩
 rintro ρ ⟨hρ34,hρ35,hρ36,hρ37,hρ38,_⟩
 refine q_st (v:=.bool ((((!(decide (m_cur.ID = m_prom))) || (decide ((((m_cur.ID.N:Nat):Int):Int) = 0))) || (decide (((((wth (est &&& (2 ^ m_n - 1)) ((m_self:Nat):Int)):Nat):Int):Int) ≠ ((m_cur.Set:Nat):Int)))) || (MB.ahead (MB.mk m_n m_self m_cur m_prom m_high none m_jl m_os) (wth (est &&& (2 ^ m_n - 1)) ((m_self:Nat):Int)) m_cur.ID))) (fun w hs => (x_assign (.tmp rfl hρ34))) ?_
 refine q_nil ?_
 intro w hs40
 refine n_then (c_seq (q_region mixed hs40 (by kernel_rfl) ?_))
 have hnd:((((!(decide (m_cur.ID = m_prom))) || (decide ((((m_cur.ID.N:Nat):Int):Int) = 0))) || (decide (((((wth (est &&& (2 ^ m_n - 1)) ((m_self:Nat):Int)):Nat):Int):Int) ≠ ((m_cur.Set:Nat):Int)))) || (MB.ahead (MB.mk m_n m_self m_cur m_prom m_high none m_jl m_os) (wth (est &&& (2 ^ m_n - 1)) ((m_self:Nat):Int)) m_cur.ID)) = (MB.need (MB.mk m_n m_self m_cur m_prom m_high none m_jl m_os) (wth (est &&& (2 ^ m_n - 1)) ((m_self:Nat):Int))):=need_is (m:=(MB.mk m_n m_self m_cur m_prom m_high none m_jl m_os))
 skip
 refine q_st (v:=.pointer none) (fun w hs => (x_move (.tmp rfl hρ38))) ?_
 refine q_st (v:=.bool false) (fun w hs => (x_neqP Tryd.underlying75 (.tmp rfl rfl) .const rfl)) ?_
 refine q_st (v:=.bool false) (fun w hs => (x_move (.tmp rfl rfl))) ?_
 refine q_no (yl (dj:=72) (b:=false) rfl rfl rfl) rfl ?_
 refine q_no (yl (dj:=72) (b:=false) rfl rfl rfl) rfl ?_
 refine q_no (yl (dj:=72) (b:=false) rfl rfl rfl) rfl ?_
 refine q_no (yl (dj:=72) (b:=false) rfl rfl rfl) rfl ?_
 refine q_no (yl (dj:=72) (b:=false) rfl rfl rfl) rfl ?_
 refine q_st (v:=.bool false) (fun w hs => (x_pick_f (.tmp rfl rfl) .const)) ?_
 refine q_st (v:=.bool false) (fun w hs => (x_move (.tmp rfl rfl))) ?_
 refine q_no (yl (dj:=79) (b:=false) rfl rfl rfl) rfl ?_
 refine q_no (yl (dj:=79) (b:=false) rfl rfl rfl) rfl ?_
 refine q_no (yl (dj:=79) (b:=false) rfl rfl rfl) rfl ?_
 refine q_no (yl (dj:=79) (b:=false) rfl rfl rfl) rfl ?_
 refine q_no (yl (dj:=79) (b:=false) rfl rfl rfl) rfl ?_
 refine q_no (yl (dj:=79) (b:=false) rfl rfl rfl) rfl ?_
 refine q_no (yl (dj:=79) (b:=false) rfl rfl rfl) rfl ?_
 refine q_no (yl (dj:=79) (b:=false) rfl rfl rfl) rfl ?_
 refine q_no (yl (dj:=79) (b:=false) rfl rfl rfl) rfl ?_
 refine q_no (yl (dj:=79) (b:=false) rfl rfl rfl) rfl ?_
 refine q_st (v:=.bool false) (fun w hs => (x_pick_f (.tmp rfl rfl) .const)) ?_
 refine q_st (v:=.bool false) (fun w hs => (x_move (.tmp rfl rfl))) ?_
 refine q_no (yl (dj:=91) (b:=false) rfl rfl rfl) rfl ?_
 refine q_no (yl (dj:=91) (b:=false) rfl rfl rfl) rfl ?_
 refine q_no (yl (dj:=91) (b:=false) rfl rfl rfl) rfl ?_
 refine q_no (yl (dj:=91) (b:=false) rfl rfl rfl) rfl ?_
 refine q_no (yl (dj:=91) (b:=false) rfl rfl rfl) rfl ?_
 refine q_no (yl (dj:=91) (b:=false) rfl rfl rfl) rfl ?_
 refine q_no (yl (dj:=91) (b:=false) rfl rfl rfl) rfl ?_
 refine q_st (v:=.bool false) (fun w hs => (x_pick_f (.tmp rfl rfl) .const)) ?_
 refine q_st (v:=.bool false) (fun w hs => (x_move (.tmp rfl rfl))) ?_
 refine q_no (yl (dj:=100) (b:=false) rfl rfl rfl) rfl ?_
 refine q_no (yl (dj:=100) (b:=false) rfl rfl rfl) rfl ?_
 refine q_no (yl (dj:=100) (b:=false) rfl rfl rfl) rfl ?_
 refine q_no (yl (dj:=100) (b:=false) rfl rfl rfl) rfl ?_
 refine q_no (yl (dj:=100) (b:=false) rfl rfl rfl) rfl ?_
 refine q_no (yl (dj:=100) (b:=false) rfl rfl rfl) rfl ?_
 refine q_no (yl (dj:=100) (b:=false) rfl rfl rfl) rfl ?_
 refine q_no (yl (dj:=100) (b:=false) rfl rfl rfl) rfl ?_
 refine q_no (yl (dj:=100) (b:=false) rfl rfl rfl) rfl ?_
 refine q_st (v:=.bool false) (fun w hs => (x_pick_f (.tmp rfl rfl) .const)) ?_
 refine q_st (v:=.bool false) (fun w hs => (x_assign (.tmp rfl rfl))) ?_
 refine q_nil ?_
 intro w hs41
 refine n_then (c_seq (c_seq (q_region mixed hs41 (by kernel_rfl) ?_)))
 have hud:false = (MB.under (MB.mk m_n m_self m_cur m_prom m_high none m_jl m_os) (wth (est &&& (2 ^ m_n - 1)) ((m_self:Nat):Int))):=rfl
 skip
 refine q_st (v:=.int .u16 (((wth (est &&& (2 ^ m_n - 1)) ((m_self:Nat):Int)):Nat):Int)) (fun w hs => (x_move (.tmp rfl hρ36))) ?_
 refine q_c (v:=.int .i64 (least (wth (est &&& (2 ^ m_n - 1)) ((m_self:Nat):Int)))) cb26 .func (evs1 (.tmp rfl rfl)) (fun w hs => least_spec hs htab (wth (est &&& (2 ^ m_n - 1)) ((m_self:Nat):Int)) (wth_lt hb15 ((m_self:Nat):Int))) ?_
 refine q_st (v:=.pointer (some ⟨g_m,0,none⟩)) (fun w hs => (x_move (.tmp rfl hρ35))) ?_
 refine q_st (v:=.pointer (some ⟨g_m,0,none⟩)) (fun w hs => (x_nilCheck (.tmp rfl rfl))) ?_
 refine q_st (v:=.pointer (some ⟨g_m,0 + 1,none⟩)) (fun w hs => (fa78_1 (.tmp rfl rfl))) ?_
 refine q_st (v:=.int .i64 ((m_self:Nat):Int)) (fun w hs => (ld3 (.tmp rfl rfl) (hs.cell 1 rfl (0 + 1) rfl))) ?_
 refine q_st (v:=.bool (decide (((least (wth (est &&& (2 ^ m_n - 1)) ((m_self:Nat):Int))):Int) = ((m_self:Nat):Int)))) (fun w hs => (x_eql (k:=.i64) (a:=(least (wth (est &&& (2 ^ m_n - 1)) ((m_self:Nat):Int)))) (b:=((m_self:Nat):Int)) (.tmp rfl rfl) (.tmp rfl rfl))) ?_
 refine q_st (v:=.bool (decide (((least (wth (est &&& (2 ^ m_n - 1)) ((m_self:Nat):Int))):Int) = ((m_self:Nat):Int)))) (fun w hs => (x_move (.tmp rfl rfl))) ?_
 refine jq 2 (fun ρ => ρ 120 = .bool ((decide (((least (wth (est &&& (2 ^ m_n - 1)) ((m_self:Nat):Int))):Int) = ((m_self:Nat):Int))) && (MB.need (MB.mk m_n m_self m_cur m_prom m_high none m_jl m_os) (wth (est &&& (2 ^ m_n - 1)) ((m_self:Nat):Int))))∧ρ 0 = .pointer (some ⟨g_m,0,none⟩)∧ρ 1 = .int .u16 (((wth (est &&& (2 ^ m_n - 1)) ((m_self:Nat):Int)):Nat):Int)∧ρ 5 = .pointer (some ⟨g10,0,none⟩)∧ρ 10 = .bool (MB.under (MB.mk m_n m_self m_cur m_prom m_high none m_jl m_os) (wth (est &&& (2 ^ m_n - 1)) ((m_self:Nat):Int)))∧True) ?_ ?_
 rcases Bool.eq_false_or_eq_true (decide (((least (wth (est &&& (2 ^ m_n - 1)) ((m_self:Nat):Int))):Int) = ((m_self:Nat):Int))) with hc42 | hc42
 have hp42:((least (wth (est &&& (2 ^ m_n - 1)) ((m_self:Nat):Int))):Int) = ((m_self:Nat):Int):=of_decide_eq_true hc42
 refine q_yes (yk 118 true rfl rfl hc42) ?_
 refine q_st (v:=.bool (MB.need (MB.mk m_n m_self m_cur m_prom m_high none m_jl m_os) (wth (est &&& (2 ^ m_n - 1)) ((m_self:Nat):Int)))) (fun w hs => (x_move (.tmp rfl (cVb hnd)))) ?_
 refine q_st (v:=.bool (MB.need (MB.mk m_n m_self m_cur m_prom m_high none m_jl m_os) (wth (est &&& (2 ^ m_n - 1)) ((m_self:Nat):Int)))) (fun w hs => (x_pick_t (.tmp rfl (cVb hc42)) (.tmp rfl rfl))) ?_
 exact jq_end ⟨(cVb (jand_t hc42)),hρ35,hρ36,hρ37,(cVb hud),True.intro⟩
 have hp42:¬ (((least (wth (est &&& (2 ^ m_n - 1)) ((m_self:Nat):Int))):Int) = ((m_self:Nat):Int)):=of_decide_eq_false hc42
 refine q_no (yk 118 false rfl rfl hc42) rfl ?_
 refine q_st (v:=.bool false) (fun w hs => (x_pick_f (.tmp rfl (cVb hc42)) .const)) ?_
 exact jq_end ⟨(cVb (jand_f hc42)),hρ35,hρ36,hρ37,(cVb hud),True.intro⟩
 rintro ρ ⟨hρ43,hρ44,hρ45,hρ46,hρ47,_⟩
 refine q_st (v:=.bool ((decide (((least (wth (est &&& (2 ^ m_n - 1)) ((m_self:Nat):Int))):Int) = ((m_self:Nat):Int))) && (MB.need (MB.mk m_n m_self m_cur m_prom m_high none m_jl m_os) (wth (est &&& (2 ^ m_n - 1)) ((m_self:Nat):Int))))) (fun w hs => (x_move (.tmp rfl hρ43))) ?_
 refine jq 3 (fun ρ => ρ 124 = .bool (((decide (((least (wth (est &&& (2 ^ m_n - 1)) ((m_self:Nat):Int))):Int) = ((m_self:Nat):Int))) && (MB.need (MB.mk m_n m_self m_cur m_prom m_high none m_jl m_os) (wth (est &&& (2 ^ m_n - 1)) ((m_self:Nat):Int)))) && (!(MB.under (MB.mk m_n m_self m_cur m_prom m_high none m_jl m_os) (wth (est &&& (2 ^ m_n - 1)) ((m_self:Nat):Int)))))∧ρ 0 = .pointer (some ⟨g_m,0,none⟩)∧ρ 1 = .int .u16 (((wth (est &&& (2 ^ m_n - 1)) ((m_self:Nat):Int)):Nat):Int)∧ρ 5 = .pointer (some ⟨g10,0,none⟩)∧True) ?_ ?_
 rcases Bool.eq_false_or_eq_true ((decide (((least (wth (est &&& (2 ^ m_n - 1)) ((m_self:Nat):Int))):Int) = ((m_self:Nat):Int))) && (MB.need (MB.mk m_n m_self m_cur m_prom m_high none m_jl m_os) (wth (est &&& (2 ^ m_n - 1)) ((m_self:Nat):Int)))) with hc49 | hc49
 have hp49:(((least (wth (est &&& (2 ^ m_n - 1)) ((m_self:Nat):Int))):Int) = ((m_self:Nat):Int))∧((MB.need (MB.mk m_n m_self m_cur m_prom m_high none m_jl m_os) (wth (est &&& (2 ^ m_n - 1)) ((m_self:Nat):Int))) = true):=((J_and decide_eq_true_iff Iff.rfl)).1 hc49
 refine q_yes (yk 121 true rfl rfl hc49) ?_
 refine q_st (v:=.bool (MB.under (MB.mk m_n m_self m_cur m_prom m_high none m_jl m_os) (wth (est &&& (2 ^ m_n - 1)) ((m_self:Nat):Int)))) (fun w hs => (x_move (.tmp rfl hρ47))) ?_
 refine q_yes (yk 121 true rfl rfl hc49) ?_
 refine q_st (v:=.bool (!(MB.under (MB.mk m_n m_self m_cur m_prom m_high none m_jl m_os) (wth (est &&& (2 ^ m_n - 1)) ((m_self:Nat):Int))))) (fun w hs => (x_not (.tmp rfl rfl))) ?_
 refine q_st (v:=.bool (!(MB.under (MB.mk m_n m_self m_cur m_prom m_high none m_jl m_os) (wth (est &&& (2 ^ m_n - 1)) ((m_self:Nat):Int))))) (fun w hs => (x_pick_t (.tmp rfl (cVb hc49)) (.tmp rfl rfl))) ?_
 exact jq_end ⟨(cVb (jand_t hc49)),hρ44,hρ45,hρ46,True.intro⟩
 have hp49:¬ ((((least (wth (est &&& (2 ^ m_n - 1)) ((m_self:Nat):Int))):Int) = ((m_self:Nat):Int))∧((MB.need (MB.mk m_n m_self m_cur m_prom m_high none m_jl m_os) (wth (est &&& (2 ^ m_n - 1)) ((m_self:Nat):Int))) = true)):=J_no (J_and decide_eq_true_iff Iff.rfl) hc49
 refine q_no (yk 121 false rfl rfl hc49) rfl ?_
 refine q_no (yk 121 false rfl rfl hc49) rfl ?_
 refine q_st (v:=.bool false) (fun w hs => (x_pick_f (.tmp rfl (cVb hc49)) .const)) ?_
 exact jq_end ⟨(cVb (jand_f hc49)),hρ44,hρ45,hρ46,True.intro⟩
 rintro ρ ⟨hρ50,hρ51,hρ52,hρ53,_⟩
 refine q_nil ?_
 intro w hs55
 refine n_then ?_
 rcases Bool.eq_false_or_eq_true (((decide (((least (wth (est &&& (2 ^ m_n - 1)) ((m_self:Nat):Int))):Int) = ((m_self:Nat):Int))) && (MB.need (MB.mk m_n m_self m_cur m_prom m_high none m_jl m_os) (wth (est &&& (2 ^ m_n - 1)) ((m_self:Nat):Int)))) && (!(MB.under (MB.mk m_n m_self m_cur m_prom m_high none m_jl m_os) (wth (est &&& (2 ^ m_n - 1)) ((m_self:Nat):Int))))) with hc56 | hc56
 have hp56:((((least (wth (est &&& (2 ^ m_n - 1)) ((m_self:Nat):Int))):Int) = ((m_self:Nat):Int))∧((MB.need (MB.mk m_n m_self m_cur m_prom m_high none m_jl m_os) (wth (est &&& (2 ^ m_n - 1)) ((m_self:Nat):Int))) = true))∧(¬ ((MB.under (MB.mk m_n m_self m_cur m_prom m_high none m_jl m_os) (wth (est &&& (2 ^ m_n - 1)) ((m_self:Nat):Int))) = true)):=((J_and (J_and decide_eq_true_iff Iff.rfl) (J_not Iff.rfl))).1 hc56
 refine c_cond_t (t:=true) (.tmp rfl (hρ50.trans (cVb hc56))) rfl ?_
 refine c_seq (c_region (st (v:=.pointer (some ⟨g_m,0,none⟩)) (x_move (.tmp rfl hρ51)) ?_))
 refine st (v:=.pointer (some ⟨g_m,0,none⟩)) (x_nilCheck (.tmp rfl rfl)) ?_
 refine st (v:=.pointer (some ⟨g_m,0 + 7,none⟩)) (fa78_4 (.tmp rfl rfl)) ?_
 refine st (v:=.int .u64 ((m_high:Nat):Int)) (ld32 (.tmp rfl rfl) (hs55.cell 1 rfl (0 + 7) rfl)) ?_
 refine st (v:=.int .u64 ((((m_high + 1) % 18446744073709551616):Nat):Int)) (x_add (k:=.u64) (a:=((m_high:Nat):Int)) (b:=1) (.tmp rfl rfl) .const (wAddN (m:=m_high) (n:=1) _ rfl rfl rfl)) ?_
 refine st (v:=.pointer (some ⟨g_m,0,none⟩)) (x_nilCheck (.tmp rfl rfl)) ?_
 refine st (v:=.pointer (some ⟨g_m,0 + 7,none⟩)) (fa78_4 (.tmp rfl rfl)) ?_
 have hs57:=hs55.p1
 refine st_m0 (sto32 (cs':=((.int .i64 ((m_n:Nat):Int))::(.int .i64 ((m_self:Nat):Int))::(.int .u64 ((m_cur.ID.N:Nat):Int))::(.int .i64 m_cur.ID.P)::(.int .u16 ((m_cur.Set:Nat):Int))::(.int .u64 ((m_prom.N:Nat):Int))::(.int .i64 m_prom.P)::(.int .u64 ((((m_high + 1) % 18446744073709551616):Nat):Int))::(.pointer none)::(.slice A_m jn_m jc_m)::oCells m_os)) (i:=0 + 7) hs57 (v:=.int .u64 ((((m_high + 1) % 18446744073709551616):Nat):Int)) (.tmp rfl rfl) (.tmp rfl rfl) rfl (Nat.le_of_ble_eq_true rfl) one1 rfl) ?_
 rintro w58 hs60
 refine c_nil (n_then (c_seq (t_region (L:=obj g_m 78 ((.int .i64 ((m_n:Nat):Int))::(.int .i64 ((m_self:Nat):Int))::(.int .u64 ((m_cur.ID.N:Nat):Int))::(.int .i64 m_cur.ID.P)::(.int .u16 ((m_cur.Set:Nat):Int))::(.int .u64 ((m_prom.N:Nat):Int))::(.int .i64 m_prom.P)::(.int .u64 ((((m_high + 1) % 18446744073709551616):Nat):Int))::(.pointer none)::(.slice A_m jn_m jc_m)::oCells m_os)::obj g10 37 (clState sx A6 n7 c8)::L) (L':=obj g_m 78 ((.int .i64 ((m_n:Nat):Int))::(.int .i64 ((m_self:Nat):Int))::(.int .u64 ((m_cur.ID.N:Nat):Int))::(.int .i64 m_cur.ID.P)::(.int .u16 ((m_cur.Set:Nat):Int))::(.int .u64 ((m_prom.N:Nat):Int))::(.int .i64 m_prom.P)::(.int .u64 ((((m_high + 1) % 18446744073709551616):Nat):Int))::(.pointer none)::(.slice A_m jn_m jc_m)::oCells m_os)::obj g10 37 (clState sx A6 n7 c8)::L) (Z:=[12]) (F:=[]) (pl:=(.q 0 (.q 1 (.q 2 (.q 3 (.q 4 (.q 5 (.q 6 (.q 7 (.q 8 (.q 9 (.q 10 (.e 11 (.e 12 .done)))))))))))))) mixed hs60 (fun u hu => hu) (by kernel_rfl) ?_)))
 intro w61 hs62
 refine t_st (k:=0) (v:=.pointer (some ⟨g_m,0,none⟩)) rfl rfl (fun w hs => (x_move (.tmp rfl hρ51))) ?_
 refine t_st (k:=1) (v:=.pointer (some ⟨g_m,0,none⟩)) rfl rfl (fun w hs => (x_nilCheck (.tmp rfl rfl))) ?_
 refine t_st (k:=2) (v:=.pointer (some ⟨g_m,0 + 7,none⟩)) rfl rfl (fun w hs => (fa78_4 (.tmp rfl rfl))) ?_
 refine t_st (k:=3) (v:=.int .u64 ((((m_high + 1) % 18446744073709551616):Nat):Int)) rfl rfl (fun w hs => (ld32 (.tmp rfl rfl) (hs.cell 0 rfl (0 + 7) rfl))) ?_
 refine t_st (k:=4) (v:=.pointer (some ⟨g_m,0,none⟩)) rfl rfl (fun w hs => (x_move (.tmp rfl hρ51))) ?_
 refine t_st (k:=5) (v:=.pointer (some ⟨g_m,0,none⟩)) rfl rfl (fun w hs => (x_nilCheck (.tmp rfl rfl))) ?_
 refine t_st (k:=6) (v:=.pointer (some ⟨g_m,0 + 1,none⟩)) rfl rfl (fun w hs => (fa78_1 (.tmp rfl rfl))) ?_
 refine t_st (k:=7) (v:=.int .i64 ((m_self:Nat):Int)) rfl rfl (fun w hs => (ld3 (.tmp rfl rfl) (hs.cell 0 rfl (0 + 1) rfl))) ?_
 refine t_st (k:=8) (v:=.agg #[.int .u64 ((((m_high + 1) % 18446744073709551616):Nat):Int),.int .i64 ((m_self:Nat):Int)]) rfl rfl (fun w hs => (bl34 (ps:=[(0,.int .u64 ((((m_high + 1) % 18446744073709551616):Nat):Int)),(1,.int .i64 ((m_self:Nat):Int))]) (.cons (.tmp rfl rfl) (.cons (.tmp rfl rfl) Evp.nil)) rfl)) ?_
 refine t_st (k:=9) (v:=.int .u16 (((wth (est &&& (2 ^ m_n - 1)) ((m_self:Nat):Int)):Nat):Int)) rfl rfl (fun w hs => (x_move (.tmp rfl hρ52))) ?_
 refine t_st (k:=10) (v:=.agg #[.int .u64 ((((m_high + 1) % 18446744073709551616):Nat):Int),.int .i64 ((m_self:Nat):Int),.int .u16 (((wth (est &&& (2 ^ m_n - 1)) ((m_self:Nat):Int)):Nat):Int)]) rfl rfl (fun w hs => (bl39 (ps:=[(0,.agg #[.int .u64 ((((m_high + 1) % 18446744073709551616):Nat):Int),.int .i64 ((m_self:Nat):Int)]),(1,.int .u16 (((wth (est &&& (2 ^ m_n - 1)) ((m_self:Nat):Int)):Nat):Int))]) (.cons (.tmp rfl rfl) (.cons (.tmp rfl rfl) Evp.nil)) rfl)) ?_
 refine t_eff (k:=11) rfl ?_
 refine st_m (al39 (cs:=[.int .u64 0,.int .i64 0,.int .u16 0]) hs62 rfl) ?_
 rintro _ w65 ⟨g63,rfl,hs67⟩
 refine t_on (S':=fun u => St H u (obj g63 39 [.int .u64 0,.int .i64 0,.int .u16 0]::obj g_m 78 ((.int .i64 ((m_n:Nat):Int))::(.int .i64 ((m_self:Nat):Int))::(.int .u64 ((m_cur.ID.N:Nat):Int))::(.int .i64 m_cur.ID.P)::(.int .u16 ((m_cur.Set:Nat):Int))::(.int .u64 ((m_prom.N:Nat):Int))::(.int .i64 m_prom.P)::(.int .u64 ((((m_high + 1) % 18446744073709551616):Nat):Int))::(.pointer none)::(.slice A_m jn_m jc_m)::oCells m_os)::obj g10 37 (clState sx A6 n7 c8)::L)) (fun u hu => hu.drop) hs67 ?_
 refine t_eff (k:=12) rfl ?_
 refine st_m0 (sto39 (cs':=[.int .u64 ((((m_high + 1) % 18446744073709551616):Nat):Int),.int .i64 ((m_self:Nat):Int),.int .u16 (((wth (est &&& (2 ^ m_n - 1)) ((m_self:Nat):Int)):Nat):Int)]) (i:=0) hs67 (v:=.agg #[.int .u64 ((((m_high + 1) % 18446744073709551616):Nat):Int),.int .i64 ((m_self:Nat):Int),.int .u16 (((wth (est &&& (2 ^ m_n - 1)) ((m_self:Nat):Int)):Nat):Int)]) (.tmp rfl rfl) (.tmp rfl rfl) rfl (Nat.le_of_ble_eq_true rfl) (oneA rfl) rfl) ?_
 rintro w68 hs70
 refine t_new (S':=fun u => St H u (obj g63 39 [.int .u64 ((((m_high + 1) % 18446744073709551616):Nat):Int),.int .i64 ((m_self:Nat):Int),.int .u16 (((wth (est &&& (2 ^ m_n - 1)) ((m_self:Nat):Int)):Nat):Int)]::obj g_m 78 ((.int .i64 ((m_n:Nat):Int))::(.int .i64 ((m_self:Nat):Int))::(.int .u64 ((m_cur.ID.N:Nat):Int))::(.int .i64 m_cur.ID.P)::(.int .u16 ((m_cur.Set:Nat):Int))::(.int .u64 ((m_prom.N:Nat):Int))::(.int .i64 m_prom.P)::(.int .u64 ((((m_high + 1) % 18446744073709551616):Nat):Int))::(.pointer none)::(.slice A_m jn_m jc_m)::oCells m_os)::obj g10 37 (clState sx A6 n7 c8)::L)) rfl hs70 ?_
 refine t_nil ?_
 refine n_then (c_seq (u_region (L:=obj g63 39 [.int .u64 ((((m_high + 1) % 18446744073709551616):Nat):Int),.int .i64 ((m_self:Nat):Int),.int .u16 (((wth (est &&& (2 ^ m_n - 1)) ((m_self:Nat):Int)):Nat):Int)]::obj g_m 78 ((.int .i64 ((m_n:Nat):Int))::(.int .i64 ((m_self:Nat):Int))::(.int .u64 ((m_cur.ID.N:Nat):Int))::(.int .i64 m_cur.ID.P)::(.int .u16 ((m_cur.Set:Nat):Int))::(.int .u64 ((m_prom.N:Nat):Int))::(.int .i64 m_prom.P)::(.int .u64 ((((m_high + 1) % 18446744073709551616):Nat):Int))::(.pointer none)::(.slice A_m jn_m jc_m)::oCells m_os)::obj g10 37 (clState sx A6 n7 c8)::L) (L':=obj g63 39 [.int .u64 ((((m_high + 1) % 18446744073709551616):Nat):Int),.int .i64 ((m_self:Nat):Int),.int .u16 (((wth (est &&& (2 ^ m_n - 1)) ((m_self:Nat):Int)):Nat):Int)]::obj g_m 78 ((.int .i64 ((m_n:Nat):Int))::(.int .i64 ((m_self:Nat):Int))::(.int .u64 ((m_cur.ID.N:Nat):Int))::(.int .i64 m_cur.ID.P)::(.int .u16 ((m_cur.Set:Nat):Int))::(.int .u64 ((m_prom.N:Nat):Int))::(.int .i64 m_prom.P)::(.int .u64 ((((m_high + 1) % 18446744073709551616):Nat):Int))::(.pointer none)::(.slice A_m jn_m jc_m)::oCells m_os)::obj g10 37 (clState sx A6 n7 c8)::L) (Z:=[16,19]) (F:=[1,4,10,12]) (Lw:=obj g63 39 [.int .u64 ((((m_high + 1) % 18446744073709551616):Nat):Int),.int .i64 ((m_self:Nat):Int),.int .u16 (((wth (est &&& (2 ^ m_n - 1)) ((m_self:Nat):Int)):Nat):Int)]::obj g10 37 (clState sx A6 n7 c8)::L) (pl:=(.q 0 (.q 1 (.q 2 (.q 3 (.q 4 (.q 5 (.q 6 (.q 7 (.q 8 (.q 10 (.two 9 (.q 14 (.q 15 (.two 11 (.q 12 (.two 13 (.e 16 (.q 17 (.q 18 (.e 19 .done)))) 16 (.e 13 (.q 17 (.q 18 (.e 19 .done)))))) 16 (.e 11 (.q 12 (.e 13 (.q 17 (.q 18 (.e 19 .done))))))))) 11 (.e 9 (.q 12 (.q 14 (.q 15 (.two 13 (.e 16 (.q 17 (.q 18 (.e 19 .done)))) 16 (.e 13 (.q 17 (.q 18 (.e 19 .done))))))))))))))))))))) mixed hs70 (fun u hu => hu) (fun u hu => (hu.p1).drop) (by kernel_rfl) ?_))
 intro w71 hs72
 refine u_st (k:=0) (v:=.pointer (some ⟨g_m,0,none⟩)) rfl rfl (fun w hs => (x_move (.tmp rfl hρ51))) ?_
 refine u_fr (k:=1) (v:=.pointer (some ⟨g_m,0,none⟩)) rfl rfl (fun w hs => (x_move (.tmp rfl hρ51))) ?_
 refine u_st (k:=2) (v:=.pointer (some ⟨g63,0 + 0,none⟩)) rfl rfl (fun w hs => (fa39_0 (.tmp rfl rfl))) ?_
 refine u_st (k:=3) (v:=.agg #[.int .u64 ((((m_high + 1) % 18446744073709551616):Nat):Int),.int .i64 ((m_self:Nat):Int)]) rfl rfl (fun w hs => (ld34 (cs:=[.int .u64 ((((m_high + 1) % 18446744073709551616):Nat):Int),.int .i64 ((m_self:Nat):Int)]) (.tmp rfl rfl) (hs.at_ 0 rfl (0 + 0) rfl) rfl)) ?_
 refine u_fr (k:=4) (v:=.agg #[.int .u64 ((((m_high + 1) % 18446744073709551616):Nat):Int),.int .i64 ((m_self:Nat):Int),.int .u16 (((wth (est &&& (2 ^ m_n - 1)) ((m_self:Nat):Int)):Nat):Int)]) rfl rfl (fun w hs => (ld39 (cs:=[.int .u64 ((((m_high + 1) % 18446744073709551616):Nat):Int),.int .i64 ((m_self:Nat):Int),.int .u16 (((wth (est &&& (2 ^ m_n - 1)) ((m_self:Nat):Int)):Nat):Int)]) (.tmp rfl rfl) (hs.at_ 0 rfl (0) rfl) rfl)) ?_
 refine u_st (k:=5) (v:=.pointer (some ⟨g_m,0,none⟩)) rfl rfl (fun w hs => (x_move (.tmp rfl hρ51))) ?_
 refine u_st (k:=6) (v:=.pointer (some ⟨g_m,0,none⟩)) rfl rfl (fun w hs => (x_nilCheck (.tmp rfl rfl))) ?_
 refine u_st (k:=7) (v:=.pointer (some ⟨g_m,0 + 1,none⟩)) rfl rfl (fun w hs => (fa78_1 (.tmp rfl rfl))) ?_
 refine u_st (k:=8) (v:=.int .i64 ((m_self:Nat):Int)) rfl rfl (fun w hs => (ld3 (.tmp rfl rfl) (hs.cell 1 rfl (0 + 1) rfl))) ?_
 refine u_fr (k:=10) (v:=.agg #[.int .u64 ((sx.V.N:Nat):Int),.int .i64 sx.V.P,.int .i64 sx.Floor,.slice A6 n7 c8]) rfl rfl (fun w hs => (ld37 (cs:=[.int .u64 ((sx.V.N:Nat):Int),.int .i64 sx.V.P,.int .i64 sx.Floor,.slice A6 n7 c8]) (.tmp rfl hρ53) (hs.at_ 1 rfl (0) rfl) rfl)) ?_
 refine u_two ?_ ?_
 refine u_eff (k:=9) rfl ?_
 refine st_c cb24 .func (evs2 .const (.tmp rfl rfl)) (with_spec hs72 0 ((m_self:Nat):Int) (by decide) (by omega)) ?_
 rintro e w73 ⟨rfl,hs74⟩
 refine ⟨_,rfl,?_⟩
 refine u_on (S':=fun u => St H u (obj g63 39 [.int .u64 ((((m_high + 1) % 18446744073709551616):Nat):Int),.int .i64 ((m_self:Nat):Int),.int .u16 (((wth (est &&& (2 ^ m_n - 1)) ((m_self:Nat):Int)):Nat):Int)]::obj g_m 78 ((.int .i64 ((m_n:Nat):Int))::(.int .i64 ((m_self:Nat):Int))::(.int .u64 ((m_cur.ID.N:Nat):Int))::(.int .i64 m_cur.ID.P)::(.int .u16 ((m_cur.Set:Nat):Int))::(.int .u64 ((m_prom.N:Nat):Int))::(.int .i64 m_prom.P)::(.int .u64 ((((m_high + 1) % 18446744073709551616):Nat):Int))::(.pointer none)::(.slice A_m jn_m jc_m)::oCells m_os)::obj g10 37 (clState sx A6 n7 c8)::L)) (fun u hu => hu) (fun u hu => (hu.p1).drop) hs74 ?_
 refine u_st (k:=14) (v:=.pointer (some ⟨g_m,0,none⟩)) rfl rfl (fun w hs => (x_nilCheck (.tmp rfl rfl))) ?_
 refine u_st (k:=15) (v:=.pointer (some ⟨g_m,0 + 5,none⟩)) rfl rfl (fun w hs => (fa78_3 (.tmp rfl rfl))) ?_
 refine u_two ?_ ?_
 refine u_eff (k:=11) rfl ?_
 refine st_m (m_lit (n:=1) (ps:=[(0,.agg #[.int .u64 ((sx.V.N:Nat):Int),.int .i64 sx.V.P,.int .i64 sx.Floor,.slice A6 n7 c8])]) (cs:=[.int .u64 ((sx.V.N:Nat):Int),.int .i64 sx.V.P,.int .i64 sx.Floor,.slice A6 n7 c8]) Tryd.underlying40 inf37 (.cons (.tmp rfl rfl) Evp.nil) (by decide) (by decide) rfl rfl hs74) ?_
 rintro _ w76 ⟨g75,rfl,hs78⟩
 refine u_on (S':=fun u => St H u (obj g75 37 (clState sx A6 n7 c8)::obj g63 39 [.int .u64 ((((m_high + 1) % 18446744073709551616):Nat):Int),.int .i64 ((m_self:Nat):Int),.int .u16 (((wth (est &&& (2 ^ m_n - 1)) ((m_self:Nat):Int)):Nat):Int)]::obj g_m 78 ((.int .i64 ((m_n:Nat):Int))::(.int .i64 ((m_self:Nat):Int))::(.int .u64 ((m_cur.ID.N:Nat):Int))::(.int .i64 m_cur.ID.P)::(.int .u16 ((m_cur.Set:Nat):Int))::(.int .u64 ((m_prom.N:Nat):Int))::(.int .i64 m_prom.P)::(.int .u64 ((((m_high + 1) % 18446744073709551616):Nat):Int))::(.pointer none)::(.slice A_m jn_m jc_m)::oCells m_os)::obj g10 37 (clState sx A6 n7 c8)::L)) (fun u hu => hu.drop) (fun u hu => (hu.drop.p1).drop) hs78 ?_
 refine u_fr (k:=12) (v:=.agg #[.int .u64 ((((m_high + 1) % 18446744073709551616):Nat):Int),.int .i64 ((m_self:Nat):Int),.int .u16 (((wth (est &&& (2 ^ m_n - 1)) ((m_self:Nat):Int)):Nat):Int),.int .u16 (((wth 0 ((m_self:Nat):Int)):Nat):Int),.slice (some ⟨g75,0,none⟩) 1 1,.bool false]) rfl rfl (fun w hs => (bl81 (ps:=[(0,.agg #[.int .u64 ((((m_high + 1) % 18446744073709551616):Nat):Int),.int .i64 ((m_self:Nat):Int),.int .u16 (((wth (est &&& (2 ^ m_n - 1)) ((m_self:Nat):Int)):Nat):Int)]),(1,.int .u16 (((wth 0 ((m_self:Nat):Int)):Nat):Int)),(2,.slice (some ⟨g75,0,none⟩) 1 1)]) (.cons (.tmp rfl rfl) (.cons (.tmp rfl rfl) (.cons (.tmp rfl rfl) Evp.nil))) rfl)) ?_
 refine u_two ?_ ?_
 refine u_eff (k:=13) rfl ?_
 refine st_m (m_box (cs:=[.int .u64 ((((m_high + 1) % 18446744073709551616):Nat):Int),.int .i64 ((m_self:Nat):Int),.int .u16 (((wth (est &&& (2 ^ m_n - 1)) ((m_self:Nat):Int)):Nat):Int),.int .u16 (((wth 0 ((m_self:Nat):Int)):Nat):Int),.slice (some ⟨g75,0,none⟩) 1 1,.bool false]) hs78 (v:=.agg #[.int .u64 ((((m_high + 1) % 18446744073709551616):Nat):Int),.int .i64 ((m_self:Nat):Int),.int .u16 (((wth (est &&& (2 ^ m_n - 1)) ((m_self:Nat):Int)):Nat):Int),.int .u16 (((wth 0 ((m_self:Nat):Int)):Nat):Int),.slice (some ⟨g75,0,none⟩) 1 1,.bool false]) (.tmp rfl rfl) rfl) ?_
 rintro _ w80 ⟨g79,rfl,hs82⟩
 refine u_on (S':=fun u => St H u (obj g79 81 [.int .u64 ((((m_high + 1) % 18446744073709551616):Nat):Int),.int .i64 ((m_self:Nat):Int),.int .u16 (((wth (est &&& (2 ^ m_n - 1)) ((m_self:Nat):Int)):Nat):Int),.int .u16 (((wth 0 ((m_self:Nat):Int)):Nat):Int),.slice (some ⟨g75,0,none⟩) 1 1,.bool false]::obj g75 37 (clState sx A6 n7 c8)::obj g63 39 [.int .u64 ((((m_high + 1) % 18446744073709551616):Nat):Int),.int .i64 ((m_self:Nat):Int),.int .u16 (((wth (est &&& (2 ^ m_n - 1)) ((m_self:Nat):Int)):Nat):Int)]::obj g_m 78 ((.int .i64 ((m_n:Nat):Int))::(.int .i64 ((m_self:Nat):Int))::(.int .u64 ((m_cur.ID.N:Nat):Int))::(.int .i64 m_cur.ID.P)::(.int .u16 ((m_cur.Set:Nat):Int))::(.int .u64 ((m_prom.N:Nat):Int))::(.int .i64 m_prom.P)::(.int .u64 ((((m_high + 1) % 18446744073709551616):Nat):Int))::(.pointer none)::(.slice A_m jn_m jc_m)::oCells m_os)::obj g10 37 (clState sx A6 n7 c8)::L)) (fun u hu => hu.drop) (fun u hu => (hu.drop.drop.p1).drop) hs82 ?_
 refine u_eff (k:=16) rfl ?_
 have hs83:=hs82.p3
 refine st_m0 (sto34 (cs':=((.int .i64 ((m_n:Nat):Int))::(.int .i64 ((m_self:Nat):Int))::(.int .u64 ((m_cur.ID.N:Nat):Int))::(.int .i64 m_cur.ID.P)::(.int .u16 ((m_cur.Set:Nat):Int))::(.int .u64 ((((m_high + 1) % 18446744073709551616):Nat):Int))::(.int .i64 ((m_self:Nat):Int))::(.int .u64 ((((m_high + 1) % 18446744073709551616):Nat):Int))::(.pointer none)::(.slice A_m jn_m jc_m)::oCells m_os)) (i:=0 + 5) hs83 (v:=.agg #[.int .u64 ((((m_high + 1) % 18446744073709551616):Nat):Int),.int .i64 ((m_self:Nat):Int)]) (.tmp rfl rfl) (.tmp rfl rfl) rfl (Nat.le_of_ble_eq_true rfl) (oneA rfl) rfl) ?_
 rintro w84 hs86
 refine u_new (S':=fun u => St H u (obj g_m 78 ((.int .i64 ((m_n:Nat):Int))::(.int .i64 ((m_self:Nat):Int))::(.int .u64 ((m_cur.ID.N:Nat):Int))::(.int .i64 m_cur.ID.P)::(.int .u16 ((m_cur.Set:Nat):Int))::(.int .u64 ((((m_high + 1) % 18446744073709551616):Nat):Int))::(.int .i64 ((m_self:Nat):Int))::(.int .u64 ((((m_high + 1) % 18446744073709551616):Nat):Int))::(.pointer none)::(.slice A_m jn_m jc_m)::oCells m_os)::obj g79 81 [.int .u64 ((((m_high + 1) % 18446744073709551616):Nat):Int),.int .i64 ((m_self:Nat):Int),.int .u16 (((wth (est &&& (2 ^ m_n - 1)) ((m_self:Nat):Int)):Nat):Int),.int .u16 (((wth 0 ((m_self:Nat):Int)):Nat):Int),.slice (some ⟨g75,0,none⟩) 1 1,.bool false]::obj g75 37 (clState sx A6 n7 c8)::obj g63 39 [.int .u64 ((((m_high + 1) % 18446744073709551616):Nat):Int),.int .i64 ((m_self:Nat):Int),.int .u16 (((wth (est &&& (2 ^ m_n - 1)) ((m_self:Nat):Int)):Nat):Int)]::obj g10 37 (clState sx A6 n7 c8)::L)) rfl (fun u hu => hu.drop.drop.drop) hs86 ?_
 refine u_st (k:=17) (v:=.pointer (some ⟨g_m,0,none⟩)) rfl rfl (fun w hs => (x_nilCheck (.tmp rfl rfl))) ?_
 refine u_st (k:=18) (v:=.pointer (some ⟨g_m,0 + 8,none⟩)) rfl rfl (fun w hs => (fa78_5 (.tmp rfl rfl))) ?_
 refine u_eff (k:=19) rfl ?_
 refine st_m0 (sto75 (cs':=((.int .i64 ((m_n:Nat):Int))::(.int .i64 ((m_self:Nat):Int))::(.int .u64 ((m_cur.ID.N:Nat):Int))::(.int .i64 m_cur.ID.P)::(.int .u16 ((m_cur.Set:Nat):Int))::(.int .u64 ((((m_high + 1) % 18446744073709551616):Nat):Int))::(.int .i64 ((m_self:Nat):Int))::(.int .u64 ((((m_high + 1) % 18446744073709551616):Nat):Int))::(.pointer (some ⟨g79,0,none⟩))::(.slice A_m jn_m jc_m)::oCells m_os)) (i:=0 + 8) hs86 (v:=.pointer (some ⟨g79,0,none⟩)) (.tmp rfl rfl) (.tmp rfl rfl) rfl (Nat.le_of_ble_eq_true rfl) one1 rfl) ?_
 rintro w87 hs89
 refine u_new (S':=fun u => St H u (obj g_m 78 ((.int .i64 ((m_n:Nat):Int))::(.int .i64 ((m_self:Nat):Int))::(.int .u64 ((m_cur.ID.N:Nat):Int))::(.int .i64 m_cur.ID.P)::(.int .u16 ((m_cur.Set:Nat):Int))::(.int .u64 ((((m_high + 1) % 18446744073709551616):Nat):Int))::(.int .i64 ((m_self:Nat):Int))::(.int .u64 ((((m_high + 1) % 18446744073709551616):Nat):Int))::(.pointer (some ⟨g79,0,none⟩))::(.slice A_m jn_m jc_m)::oCells m_os)::obj g79 81 [.int .u64 ((((m_high + 1) % 18446744073709551616):Nat):Int),.int .i64 ((m_self:Nat):Int),.int .u16 (((wth (est &&& (2 ^ m_n - 1)) ((m_self:Nat):Int)):Nat):Int),.int .u16 (((wth 0 ((m_self:Nat):Int)):Nat):Int),.slice (some ⟨g75,0,none⟩) 1 1,.bool false]::obj g75 37 (clState sx A6 n7 c8)::obj g63 39 [.int .u64 ((((m_high + 1) % 18446744073709551616):Nat):Int),.int .i64 ((m_self:Nat):Int),.int .u16 (((wth (est &&& (2 ^ m_n - 1)) ((m_self:Nat):Int)):Nat):Int)]::obj g10 37 (clState sx A6 n7 c8)::L)) rfl (fun u hu => hu.drop.drop.drop) hs89 ?_
 refine u_nil ?_
 refine n_then (c_seq (c_region (st (v:=.pointer (some ⟨g_m,0,none⟩)) (x_move (.tmp rfl hρ51)) ?_)))
 have hs90:=hs89.p2
 have hr95:kState.rep H sx [.int .u64 ((sx.V.N:Nat):Int),.int .i64 sx.V.P,.int .i64 sx.Floor,.slice A6 n7 c8]:=⟨A6,n7,c8,rfl,b1,⟨b2,b3⟩,⟨b4,b5⟩,hl9⟩
 obtain ⟨hs92,ok93⟩:=hs90.rowOfObj (n:=1) (size:=kState.sz) rfl (by decide)
 have hk94:kState.toKn.rows H [sx] [.int .u64 ((sx.V.N:Nat):Int),.int .i64 sx.V.P,.int .i64 sx.Floor,.slice A6 n7 c8]:=Kn.rows_one hr95
 have:([sx]:List GState).length = 1:=rfl
 have hs96:St H _ (row 37 4 (.slice (some ⟨g75,0,none⟩) 1 1) (([sx]:List GState).length) [.int .u64 ((sx.V.N:Nat):Int),.int .i64 sx.V.P,.int .i64 sx.Floor,.slice A6 n7 c8]::obj g_m 78 ((.int .i64 ((m_n:Nat):Int))::(.int .i64 ((m_self:Nat):Int))::(.int .u64 ((m_cur.ID.N:Nat):Int))::(.int .i64 m_cur.ID.P)::(.int .u16 ((m_cur.Set:Nat):Int))::(.int .u64 ((((m_high + 1) % 18446744073709551616):Nat):Int))::(.int .i64 ((m_self:Nat):Int))::(.int .u64 ((((m_high + 1) % 18446744073709551616):Nat):Int))::(.pointer (some ⟨g79,0,none⟩))::(.slice A_m jn_m jc_m)::oCells m_os)::obj g79 81 [.int .u64 ((((m_high + 1) % 18446744073709551616):Nat):Int),.int .i64 ((m_self:Nat):Int),.int .u16 (((wth (est &&& (2 ^ m_n - 1)) ((m_self:Nat):Int)):Nat):Int),.int .u16 (((wth 0 ((m_self:Nat):Int)):Nat):Int),.slice (some ⟨g75,0,none⟩) 1 1,.bool false]::obj g63 39 [.int .u64 ((((m_high + 1) % 18446744073709551616):Nat):Int),.int .i64 ((m_self:Nat):Int),.int .u16 (((wth (est &&& (2 ^ m_n - 1)) ((m_self:Nat):Int)):Nat):Int)]::obj g10 37 (clState sx A6 n7 c8)::L):=hs92
 have hs97:=hs96.p2
 have hs98:=hs97.p2
 have okm99:MemB H m_n m_self m_cur (GViewID.mk ((m_high + 1) % 18446744073709551616) ((m_self:Nat):Int)) ((m_high + 1) % 18446744073709551616) A_m jn_m jc_m m_jl m_os:=⟨hn1_m,hn16_m,hsf_m,⟨ok_m.cur.n,ok_m.cur.p⟩,ok_m.set,⟨(Nat.mod_lt _ (by decide)),(show IB ((m_self:Nat):Int) from ⟨by omega,by omega⟩)⟩,(Nat.mod_lt _ (by decide)),ok_m.joined,ok_m.len,ok_m.oth⟩
 have okp100:PropOk H (GProp.mk (GView.mk (GViewID.mk ((m_high + 1) % 18446744073709551616) ((m_self:Nat):Int)) (wth (est &&& (2 ^ m_n - 1)) ((m_self:Nat):Int))) (wth 0 ((m_self:Nat):Int)) ([sx]:List GState) false) (.slice (some ⟨g75,0,none⟩) 1 1) [.int .u64 ((sx.V.N:Nat):Int),.int .i64 sx.V.P,.int .i64 sx.Floor,.slice A6 n7 c8]:=⟨⟨(Nat.mod_lt _ (by decide)),(show IB ((m_self:Nat):Int) from ⟨by omega,by omega⟩)⟩,(wth_lt hb15 ((m_self:Nat):Int)),(wth_lt (by decide) ((m_self:Nat):Int)),ok93,hk94⟩
 refine st_c cb27 .func (evs1 (.tmp rfl rfl)) (agree_S hs98 (p_m:=(GProp.mk (GView.mk (GViewID.mk ((m_high + 1) % 18446744073709551616) ((m_self:Nat):Int)) (wth (est &&& (2 ^ m_n - 1)) ((m_self:Nat):Int))) (wth 0 ((m_self:Nat):Int)) ([sx]:List GState) false)) (m_n:=m_n) (m_self:=m_self) (m_cur:=m_cur) (m_prom:=(GViewID.mk ((m_high + 1) % 18446744073709551616) ((m_self:Nat):Int))) (m_high:=((m_high + 1) % 18446744073709551616)) (m_jl:=m_jl) (m_os:=m_os) okm99 okp100 (by simp) (fun s hs => by rw [List.mem_singleton.1 hs]; exact hfl)) ?_
 rintro e w101 ⟨H103,iv105,cz108,jz109,A110,jn111,jc112,pz114,sv115,sc116,hle104,rfl,hin106,okm107,hkp113,hme117,hs102⟩
 refine ⟨_,rfl,?_⟩
 refine st (v:=iv105) (x_assign (.tmp rfl rfl)) ?_
 refine c_nil (n_then (c_seq (c_region (st (v:=iv105) (x_move (.tmp rfl rfl)) ?_))))
 rcases InstAt.cases hin106 with ⟨hX121,rfl⟩ | ⟨yi118,gi119,ci120,hX121,rfl,hrd122,hrp123⟩
 refine st (v:=.bool false) (x_neqP Tryd.underlying28 (.tmp rfl rfl) .const rfl) ?_
 refine c_nil (n_then (c_cond_f (t:=false) (.tmp rfl rfl) rfl ?_))
 refine c_skip (n_then (c_seq (c_region (st (v:=.pointer (some ⟨g_m,0,none⟩)) (x_move (.tmp rfl hρ51)) ?_))))
 have hs125:=hs102.p2
 have hs126:=hs125.p2
 have hs127:=hs126.p2
 have okm128:MemB H103 m_n m_self cz108 (GViewID.mk ((m_high + 1) % 18446744073709551616) ((m_self:Nat):Int)) ((m_high + 1) % 18446744073709551616) A110 jn111 jc112 jz109 m_os:=⟨hn1_m,hn16_m,hsf_m,⟨okm107.cur.n,okm107.cur.p⟩,okm107.set,⟨okm107.prom.n,okm107.prom.p⟩,okm107.high,okm107.joined,okm107.len,okm107.oth⟩
 have okp129:PropOk H103 pz114 sv115 sc116:=⟨⟨hkp113.id.n,hkp113.id.p⟩,hkp113.set,hkp113.who,hkp113.ok,hkp113.hk⟩
 refine st_c cb28 .func (evs1 (.tmp rfl rfl)) (again_S hs127 (p_m:=pz114) (m_n:=m_n) (m_self:=m_self) (m_cur:=cz108) (m_prom:=(GViewID.mk ((m_high + 1) % 18446744073709551616) ((m_self:Nat):Int))) (m_high:=((m_high + 1) % 18446744073709551616)) (m_jl:=jz109) (m_os:=m_os) okm128 okp129 (htab.mono hle104)) ?_
 rintro e w130 ⟨v132,cs135,rfl,ok133,hk136,hs131⟩
 refine ⟨_,rfl,?_⟩
 refine st (v:=v132) (x_assign (.tmp rfl rfl)) ?_
 refine st (v:=.pointer none) (x_assign .const) ?_
 refine c_nil (n_then (c_ret (leave_ret (res_two (v:=v132) (u:=.pointer none) rfl (.mk rfl rfl) (.mk rfl rfl)) ?_)))
 have hpq:(MB.tick (MB.mk m_n m_self m_cur m_prom m_high none m_jl m_os) est sx) = _:=tick_wait rfl hc56 hme117 hX121 rfl
 rw [hpq]
 have okm137:MemB H103 m_n m_self cz108 (GViewID.mk ((m_high + 1) % 18446744073709551616) ((m_self:Nat):Int)) ((m_high + 1) % 18446744073709551616) A110 jn111 jc112 jz109 m_os:=⟨hn1_m,hn16_m,hsf_m,⟨okm107.cur.n,okm107.cur.p⟩,okm107.set,⟨okm107.prom.n,okm107.prom.p⟩,okm107.high,okm107.joined,okm107.len,okm107.oth⟩
 have hs138:=hs131.p3
 have hs139:=hs138.p3
 have okp140:PropOk H103 pz114 sv115 sc116:=⟨⟨hkp113.id.n,hkp113.id.p⟩,hkp113.set,hkp113.who,hkp113.ok,hkp113.hk⟩
 have hs141:=hs139.p3
 have hs142:St H103 _ (row 53 16 v132 ((MB.again (MB.mk m_n m_self cz108 (GViewID.mk ((m_high + 1) % 18446744073709551616) ((m_self:Nat):Int)) ((m_high + 1) % 18446744073709551616) (some pz114) jz109 m_os)).length) cs135::obj g63 39 [.int .u64 ((((m_high + 1) % 18446744073709551616):Nat):Int),.int .i64 ((m_self:Nat):Int),.int .u16 (((wth (est &&& (2 ^ m_n - 1)) ((m_self:Nat):Int)):Nat):Int)]::obj g10 37 (clState sx A6 n7 c8)::memR 78 81 37 g_m g79 A110 jn111 jc112 sv115 sc116 (MB.mk m_n m_self cz108 (GViewID.mk ((m_high + 1) % 18446744073709551616) ((m_self:Nat):Int)) ((m_high + 1) % 18446744073709551616) (some pz114) jz109 m_os) ++ (L)):=St.foldS (TP:=81) (TS:=37) (gp:=g79) (sv:=sv115) (sc:=sc116) [row 53 16 v132 ((MB.again (MB.mk m_n m_self cz108 (GViewID.mk ((m_high + 1) % 18446744073709551616) ((m_self:Nat):Int)) ((m_high + 1) % 18446744073709551616) (some pz114) jz109 m_os)).length) cs135,obj g63 39 [.int .u64 ((((m_high + 1) % 18446744073709551616):Nat):Int),.int .i64 ((m_self:Nat):Int),.int .u16 (((wth (est &&& (2 ^ m_n - 1)) ((m_self:Nat):Int)):Nat):Int)],obj g10 37 (clState sx A6 n7 c8)] hs141
 exact ⟨H103,v132,cs135,(.pointer none),(MB.mk m_n m_self cz108 (GViewID.mk ((m_high + 1) % 18446744073709551616) ((m_self:Nat):Int)) ((m_high + 1) % 18446744073709551616) (some pz114) jz109 m_os),g79,A110,jn111,jc112,sv115,sc116,hle104,rfl,ok133,hk136,InstAt.none',(okm137.okS okp140),rfl,((hs142.p1).drop.p1).drop⟩
 obtain ⟨A147,n148,c149,rfl,b143,⟨b144,b145⟩,b146,hl150⟩:=hrp123
 have:=hl150.len; have:n148 * 48 ≤ 140737488351232:=hl150.bnd; have:=hl150.le
 have hat124:∀ {w:World} {L:List Res},St H103 w L → At w ⟨gi119,0,none⟩ [.int .u64 ((yi118.View.ID.N:Nat):Int),.int .i64 yi118.View.ID.P,.int .u16 ((yi118.View.Set:Nat):Int),.slice A147 n148 c149]:=fun h => hrd122.hat h
 refine st (v:=.bool true) (x_neqP Tryd.underlying28 (.tmp rfl rfl) .const rfl) ?_
 refine c_nil (n_then (c_cond_t (t:=true) (.tmp rfl rfl) rfl ?_))
 refine c_seq (c_region (st (v:=.pointer (some ⟨gi119,0,none⟩)) (x_move (.tmp rfl rfl)) ?_))
 refine st (v:=.slice none 0 0) (x_assign .const) ?_
 refine st (v:=.pointer (some ⟨gi119,0,none⟩)) (x_assign (.tmp rfl rfl)) ?_
 refine c_nil (n_then (c_ret (r_then (leave_ret (res_two (v:=.slice none 0 0) (u:=.pointer (some ⟨gi119,0,none⟩)) rfl (.mk rfl rfl) (.mk rfl rfl)) ?_))))
 have hpq:(MB.tick (MB.mk m_n m_self m_cur m_prom m_high none m_jl m_os) est sx) = _:=tick_done rfl hc56 hme117 hX121 rfl
 rw [hpq]
 have hs151:=hs102.krowNil 53 kOut
 have okm153:MemB H103 m_n m_self cz108 (GViewID.mk ((m_high + 1) % 18446744073709551616) ((m_self:Nat):Int)) ((m_high + 1) % 18446744073709551616) A110 jn111 jc112 jz109 m_os:=⟨hn1_m,hn16_m,hsf_m,⟨okm107.cur.n,okm107.cur.p⟩,okm107.set,⟨okm107.prom.n,okm107.prom.p⟩,okm107.high,okm107.joined,okm107.len,okm107.oth⟩
 have hs154:=hs151.p3
 have hs155:=hs154.p3
 have okp156:PropOk H103 pz114 sv115 sc116:=⟨⟨hkp113.id.n,hkp113.id.p⟩,hkp113.set,hkp113.who,hkp113.ok,hkp113.hk⟩
 have hs157:=hs155.p3
 have hs158:St H103 _ (row 53 16 (.slice none 0 0) (([]:List GOut).length) []::obj g63 39 [.int .u64 ((((m_high + 1) % 18446744073709551616):Nat):Int),.int .i64 ((m_self:Nat):Int),.int .u16 (((wth (est &&& (2 ^ m_n - 1)) ((m_self:Nat):Int)):Nat):Int)]::obj g10 37 (clState sx A6 n7 c8)::memR 78 81 37 g_m g79 A110 jn111 jc112 sv115 sc116 (MB.mk m_n m_self cz108 (GViewID.mk ((m_high + 1) % 18446744073709551616) ((m_self:Nat):Int)) ((m_high + 1) % 18446744073709551616) (some pz114) jz109 m_os) ++ (L)):=St.foldS (TP:=81) (TS:=37) (gp:=g79) (sv:=sv115) (sc:=sc116) [row 53 16 (.slice none 0 0) (([]:List GOut).length) [],obj g63 39 [.int .u64 ((((m_high + 1) % 18446744073709551616):Nat):Int),.int .i64 ((m_self:Nat):Int),.int .u16 (((wth (est &&& (2 ^ m_n - 1)) ((m_self:Nat):Int)):Nat):Int)],obj g10 37 (clState sx A6 n7 c8)] hs157
 exact ⟨H103,(.slice none 0 0),[],.pointer (some ⟨gi119,0,none⟩),(MB.mk m_n m_self cz108 (GViewID.mk ((m_high + 1) % 18446744073709551616) ((m_self:Nat):Int)) ((m_high + 1) % 18446744073709551616) (some pz114) jz109 m_os),g79,A110,jn111,jc112,sv115,sc116,hle104,rfl,(RowOk.knil kOut),(Kn.rows_nil _ _),(InstAt.some_of rfl hrd122 ⟨A147,n148,c149,rfl,b143,⟨b144,b145⟩,b146,hl150⟩),(okm153.okS okp156),rfl,((hs158.p1).drop.p1).drop⟩
 refine u_eff (k:=16) rfl ?_
 have hs159:=hs78.p2
 refine st_m0 (sto34 (cs':=((.int .i64 ((m_n:Nat):Int))::(.int .i64 ((m_self:Nat):Int))::(.int .u64 ((m_cur.ID.N:Nat):Int))::(.int .i64 m_cur.ID.P)::(.int .u16 ((m_cur.Set:Nat):Int))::(.int .u64 ((((m_high + 1) % 18446744073709551616):Nat):Int))::(.int .i64 ((m_self:Nat):Int))::(.int .u64 ((((m_high + 1) % 18446744073709551616):Nat):Int))::(.pointer none)::(.slice A_m jn_m jc_m)::oCells m_os)) (i:=0 + 5) hs159 (v:=.agg #[.int .u64 ((((m_high + 1) % 18446744073709551616):Nat):Int),.int .i64 ((m_self:Nat):Int)]) (.tmp rfl rfl) (.tmp rfl rfl) rfl (Nat.le_of_ble_eq_true rfl) (oneA rfl) rfl) ?_
 rintro w160 hs162
 refine u_new (S':=fun u => St H u (obj g_m 78 ((.int .i64 ((m_n:Nat):Int))::(.int .i64 ((m_self:Nat):Int))::(.int .u64 ((m_cur.ID.N:Nat):Int))::(.int .i64 m_cur.ID.P)::(.int .u16 ((m_cur.Set:Nat):Int))::(.int .u64 ((((m_high + 1) % 18446744073709551616):Nat):Int))::(.int .i64 ((m_self:Nat):Int))::(.int .u64 ((((m_high + 1) % 18446744073709551616):Nat):Int))::(.pointer none)::(.slice A_m jn_m jc_m)::oCells m_os)::obj g75 37 (clState sx A6 n7 c8)::obj g63 39 [.int .u64 ((((m_high + 1) % 18446744073709551616):Nat):Int),.int .i64 ((m_self:Nat):Int),.int .u16 (((wth (est &&& (2 ^ m_n - 1)) ((m_self:Nat):Int)):Nat):Int)]::obj g10 37 (clState sx A6 n7 c8)::L)) rfl (fun u hu => hu.drop.drop) hs162 ?_
 refine u_eff (k:=13) rfl ?_
 refine st_m (m_box (cs:=[.int .u64 ((((m_high + 1) % 18446744073709551616):Nat):Int),.int .i64 ((m_self:Nat):Int),.int .u16 (((wth (est &&& (2 ^ m_n - 1)) ((m_self:Nat):Int)):Nat):Int),.int .u16 (((wth 0 ((m_self:Nat):Int)):Nat):Int),.slice (some ⟨g75,0,none⟩) 1 1,.bool false]) hs162 (v:=.agg #[.int .u64 ((((m_high + 1) % 18446744073709551616):Nat):Int),.int .i64 ((m_self:Nat):Int),.int .u16 (((wth (est &&& (2 ^ m_n - 1)) ((m_self:Nat):Int)):Nat):Int),.int .u16 (((wth 0 ((m_self:Nat):Int)):Nat):Int),.slice (some ⟨g75,0,none⟩) 1 1,.bool false]) (.tmp rfl rfl) rfl) ?_
 rintro _ w164 ⟨g163,rfl,hs166⟩
 refine u_on (S':=fun u => St H u (obj g163 81 [.int .u64 ((((m_high + 1) % 18446744073709551616):Nat):Int),.int .i64 ((m_self:Nat):Int),.int .u16 (((wth (est &&& (2 ^ m_n - 1)) ((m_self:Nat):Int)):Nat):Int),.int .u16 (((wth 0 ((m_self:Nat):Int)):Nat):Int),.slice (some ⟨g75,0,none⟩) 1 1,.bool false]::obj g_m 78 ((.int .i64 ((m_n:Nat):Int))::(.int .i64 ((m_self:Nat):Int))::(.int .u64 ((m_cur.ID.N:Nat):Int))::(.int .i64 m_cur.ID.P)::(.int .u16 ((m_cur.Set:Nat):Int))::(.int .u64 ((((m_high + 1) % 18446744073709551616):Nat):Int))::(.int .i64 ((m_self:Nat):Int))::(.int .u64 ((((m_high + 1) % 18446744073709551616):Nat):Int))::(.pointer none)::(.slice A_m jn_m jc_m)::oCells m_os)::obj g75 37 (clState sx A6 n7 c8)::obj g63 39 [.int .u64 ((((m_high + 1) % 18446744073709551616):Nat):Int),.int .i64 ((m_self:Nat):Int),.int .u16 (((wth (est &&& (2 ^ m_n - 1)) ((m_self:Nat):Int)):Nat):Int)]::obj g10 37 (clState sx A6 n7 c8)::L)) (fun u hu => hu.drop) (fun u hu => hu.drop.drop.drop) hs166 ?_
 refine u_st (k:=17) (v:=.pointer (some ⟨g_m,0,none⟩)) rfl rfl (fun w hs => (x_nilCheck (.tmp rfl rfl))) ?_
 refine u_st (k:=18) (v:=.pointer (some ⟨g_m,0 + 8,none⟩)) rfl rfl (fun w hs => (fa78_5 (.tmp rfl rfl))) ?_
 refine u_eff (k:=19) rfl ?_
 have hs167:=hs166.p1
 refine st_m0 (sto75 (cs':=((.int .i64 ((m_n:Nat):Int))::(.int .i64 ((m_self:Nat):Int))::(.int .u64 ((m_cur.ID.N:Nat):Int))::(.int .i64 m_cur.ID.P)::(.int .u16 ((m_cur.Set:Nat):Int))::(.int .u64 ((((m_high + 1) % 18446744073709551616):Nat):Int))::(.int .i64 ((m_self:Nat):Int))::(.int .u64 ((((m_high + 1) % 18446744073709551616):Nat):Int))::(.pointer (some ⟨g163,0,none⟩))::(.slice A_m jn_m jc_m)::oCells m_os)) (i:=0 + 8) hs167 (v:=.pointer (some ⟨g163,0,none⟩)) (.tmp rfl rfl) (.tmp rfl rfl) rfl (Nat.le_of_ble_eq_true rfl) one1 rfl) ?_
 rintro w168 hs170
 refine u_new (S':=fun u => St H u (obj g_m 78 ((.int .i64 ((m_n:Nat):Int))::(.int .i64 ((m_self:Nat):Int))::(.int .u64 ((m_cur.ID.N:Nat):Int))::(.int .i64 m_cur.ID.P)::(.int .u16 ((m_cur.Set:Nat):Int))::(.int .u64 ((((m_high + 1) % 18446744073709551616):Nat):Int))::(.int .i64 ((m_self:Nat):Int))::(.int .u64 ((((m_high + 1) % 18446744073709551616):Nat):Int))::(.pointer (some ⟨g163,0,none⟩))::(.slice A_m jn_m jc_m)::oCells m_os)::obj g163 81 [.int .u64 ((((m_high + 1) % 18446744073709551616):Nat):Int),.int .i64 ((m_self:Nat):Int),.int .u16 (((wth (est &&& (2 ^ m_n - 1)) ((m_self:Nat):Int)):Nat):Int),.int .u16 (((wth 0 ((m_self:Nat):Int)):Nat):Int),.slice (some ⟨g75,0,none⟩) 1 1,.bool false]::obj g75 37 (clState sx A6 n7 c8)::obj g63 39 [.int .u64 ((((m_high + 1) % 18446744073709551616):Nat):Int),.int .i64 ((m_self:Nat):Int),.int .u16 (((wth (est &&& (2 ^ m_n - 1)) ((m_self:Nat):Int)):Nat):Int)]::obj g10 37 (clState sx A6 n7 c8)::L)) rfl (fun u hu => hu.drop.drop.drop) hs170 ?_
 refine u_nil ?_
 refine n_then (c_seq (c_region (st (v:=.pointer (some ⟨g_m,0,none⟩)) (x_move (.tmp rfl hρ51)) ?_)))
 have hs171:=hs170.p2
 have hr176:kState.rep H sx [.int .u64 ((sx.V.N:Nat):Int),.int .i64 sx.V.P,.int .i64 sx.Floor,.slice A6 n7 c8]:=⟨A6,n7,c8,rfl,b1,⟨b2,b3⟩,⟨b4,b5⟩,hl9⟩
 obtain ⟨hs173,ok174⟩:=hs171.rowOfObj (n:=1) (size:=kState.sz) rfl (by decide)
 have hk175:kState.toKn.rows H [sx] [.int .u64 ((sx.V.N:Nat):Int),.int .i64 sx.V.P,.int .i64 sx.Floor,.slice A6 n7 c8]:=Kn.rows_one hr176
 have:([sx]:List GState).length = 1:=rfl
 have hs177:St H _ (row 37 4 (.slice (some ⟨g75,0,none⟩) 1 1) (([sx]:List GState).length) [.int .u64 ((sx.V.N:Nat):Int),.int .i64 sx.V.P,.int .i64 sx.Floor,.slice A6 n7 c8]::obj g_m 78 ((.int .i64 ((m_n:Nat):Int))::(.int .i64 ((m_self:Nat):Int))::(.int .u64 ((m_cur.ID.N:Nat):Int))::(.int .i64 m_cur.ID.P)::(.int .u16 ((m_cur.Set:Nat):Int))::(.int .u64 ((((m_high + 1) % 18446744073709551616):Nat):Int))::(.int .i64 ((m_self:Nat):Int))::(.int .u64 ((((m_high + 1) % 18446744073709551616):Nat):Int))::(.pointer (some ⟨g163,0,none⟩))::(.slice A_m jn_m jc_m)::oCells m_os)::obj g163 81 [.int .u64 ((((m_high + 1) % 18446744073709551616):Nat):Int),.int .i64 ((m_self:Nat):Int),.int .u16 (((wth (est &&& (2 ^ m_n - 1)) ((m_self:Nat):Int)):Nat):Int),.int .u16 (((wth 0 ((m_self:Nat):Int)):Nat):Int),.slice (some ⟨g75,0,none⟩) 1 1,.bool false]::obj g63 39 [.int .u64 ((((m_high + 1) % 18446744073709551616):Nat):Int),.int .i64 ((m_self:Nat):Int),.int .u16 (((wth (est &&& (2 ^ m_n - 1)) ((m_self:Nat):Int)):Nat):Int)]::obj g10 37 (clState sx A6 n7 c8)::L):=hs173
 have hs178:=hs177.p2
 have hs179:=hs178.p2
 have okm180:MemB H m_n m_self m_cur (GViewID.mk ((m_high + 1) % 18446744073709551616) ((m_self:Nat):Int)) ((m_high + 1) % 18446744073709551616) A_m jn_m jc_m m_jl m_os:=⟨hn1_m,hn16_m,hsf_m,⟨ok_m.cur.n,ok_m.cur.p⟩,ok_m.set,⟨(Nat.mod_lt _ (by decide)),(show IB ((m_self:Nat):Int) from ⟨by omega,by omega⟩)⟩,(Nat.mod_lt _ (by decide)),ok_m.joined,ok_m.len,ok_m.oth⟩
 have okp181:PropOk H (GProp.mk (GView.mk (GViewID.mk ((m_high + 1) % 18446744073709551616) ((m_self:Nat):Int)) (wth (est &&& (2 ^ m_n - 1)) ((m_self:Nat):Int))) (wth 0 ((m_self:Nat):Int)) ([sx]:List GState) false) (.slice (some ⟨g75,0,none⟩) 1 1) [.int .u64 ((sx.V.N:Nat):Int),.int .i64 sx.V.P,.int .i64 sx.Floor,.slice A6 n7 c8]:=⟨⟨(Nat.mod_lt _ (by decide)),(show IB ((m_self:Nat):Int) from ⟨by omega,by omega⟩)⟩,(wth_lt hb15 ((m_self:Nat):Int)),(wth_lt (by decide) ((m_self:Nat):Int)),ok174,hk175⟩
 refine st_c cb27 .func (evs1 (.tmp rfl rfl)) (agree_S hs179 (p_m:=(GProp.mk (GView.mk (GViewID.mk ((m_high + 1) % 18446744073709551616) ((m_self:Nat):Int)) (wth (est &&& (2 ^ m_n - 1)) ((m_self:Nat):Int))) (wth 0 ((m_self:Nat):Int)) ([sx]:List GState) false)) (m_n:=m_n) (m_self:=m_self) (m_cur:=m_cur) (m_prom:=(GViewID.mk ((m_high + 1) % 18446744073709551616) ((m_self:Nat):Int))) (m_high:=((m_high + 1) % 18446744073709551616)) (m_jl:=m_jl) (m_os:=m_os) okm180 okp181 (by simp) (fun s hs => by rw [List.mem_singleton.1 hs]; exact hfl)) ?_
 rintro e w182 ⟨H184,iv186,cz189,jz190,A191,jn192,jc193,pz195,sv196,sc197,hle185,rfl,hin187,okm188,hkp194,hme198,hs183⟩
 refine ⟨_,rfl,?_⟩
 refine st (v:=iv186) (x_assign (.tmp rfl rfl)) ?_
 refine c_nil (n_then (c_seq (c_region (st (v:=iv186) (x_move (.tmp rfl rfl)) ?_))))
 rcases InstAt.cases hin187 with ⟨hX202,rfl⟩ | ⟨yi199,gi200,ci201,hX202,rfl,hrd203,hrp204⟩
 refine st (v:=.bool false) (x_neqP Tryd.underlying28 (.tmp rfl rfl) .const rfl) ?_
 refine c_nil (n_then (c_cond_f (t:=false) (.tmp rfl rfl) rfl ?_))
 refine c_skip (n_then (c_seq (c_region (st (v:=.pointer (some ⟨g_m,0,none⟩)) (x_move (.tmp rfl hρ51)) ?_))))
 have hs206:=hs183.p2
 have hs207:=hs206.p2
 have hs208:=hs207.p2
 have okm209:MemB H184 m_n m_self cz189 (GViewID.mk ((m_high + 1) % 18446744073709551616) ((m_self:Nat):Int)) ((m_high + 1) % 18446744073709551616) A191 jn192 jc193 jz190 m_os:=⟨hn1_m,hn16_m,hsf_m,⟨okm188.cur.n,okm188.cur.p⟩,okm188.set,⟨okm188.prom.n,okm188.prom.p⟩,okm188.high,okm188.joined,okm188.len,okm188.oth⟩
 have okp210:PropOk H184 pz195 sv196 sc197:=⟨⟨hkp194.id.n,hkp194.id.p⟩,hkp194.set,hkp194.who,hkp194.ok,hkp194.hk⟩
 refine st_c cb28 .func (evs1 (.tmp rfl rfl)) (again_S hs208 (p_m:=pz195) (m_n:=m_n) (m_self:=m_self) (m_cur:=cz189) (m_prom:=(GViewID.mk ((m_high + 1) % 18446744073709551616) ((m_self:Nat):Int))) (m_high:=((m_high + 1) % 18446744073709551616)) (m_jl:=jz190) (m_os:=m_os) okm209 okp210 (htab.mono hle185)) ?_
 rintro e w211 ⟨v213,cs216,rfl,ok214,hk217,hs212⟩
 refine ⟨_,rfl,?_⟩
 refine st (v:=v213) (x_assign (.tmp rfl rfl)) ?_
 refine st (v:=.pointer none) (x_assign .const) ?_
 refine c_nil (n_then (c_ret (leave_ret (res_two (v:=v213) (u:=.pointer none) rfl (.mk rfl rfl) (.mk rfl rfl)) ?_)))
 have hpq:(MB.tick (MB.mk m_n m_self m_cur m_prom m_high none m_jl m_os) est sx) = _:=tick_wait rfl hc56 hme198 hX202 rfl
 rw [hpq]
 have okm218:MemB H184 m_n m_self cz189 (GViewID.mk ((m_high + 1) % 18446744073709551616) ((m_self:Nat):Int)) ((m_high + 1) % 18446744073709551616) A191 jn192 jc193 jz190 m_os:=⟨hn1_m,hn16_m,hsf_m,⟨okm188.cur.n,okm188.cur.p⟩,okm188.set,⟨okm188.prom.n,okm188.prom.p⟩,okm188.high,okm188.joined,okm188.len,okm188.oth⟩
 have hs219:=hs212.p3
 have hs220:=hs219.p3
 have okp221:PropOk H184 pz195 sv196 sc197:=⟨⟨hkp194.id.n,hkp194.id.p⟩,hkp194.set,hkp194.who,hkp194.ok,hkp194.hk⟩
 have hs222:=hs220.p3
 have hs223:St H184 _ (row 53 16 v213 ((MB.again (MB.mk m_n m_self cz189 (GViewID.mk ((m_high + 1) % 18446744073709551616) ((m_self:Nat):Int)) ((m_high + 1) % 18446744073709551616) (some pz195) jz190 m_os)).length) cs216::obj g63 39 [.int .u64 ((((m_high + 1) % 18446744073709551616):Nat):Int),.int .i64 ((m_self:Nat):Int),.int .u16 (((wth (est &&& (2 ^ m_n - 1)) ((m_self:Nat):Int)):Nat):Int)]::obj g10 37 (clState sx A6 n7 c8)::memR 78 81 37 g_m g163 A191 jn192 jc193 sv196 sc197 (MB.mk m_n m_self cz189 (GViewID.mk ((m_high + 1) % 18446744073709551616) ((m_self:Nat):Int)) ((m_high + 1) % 18446744073709551616) (some pz195) jz190 m_os) ++ (L)):=St.foldS (TP:=81) (TS:=37) (gp:=g163) (sv:=sv196) (sc:=sc197) [row 53 16 v213 ((MB.again (MB.mk m_n m_self cz189 (GViewID.mk ((m_high + 1) % 18446744073709551616) ((m_self:Nat):Int)) ((m_high + 1) % 18446744073709551616) (some pz195) jz190 m_os)).length) cs216,obj g63 39 [.int .u64 ((((m_high + 1) % 18446744073709551616):Nat):Int),.int .i64 ((m_self:Nat):Int),.int .u16 (((wth (est &&& (2 ^ m_n - 1)) ((m_self:Nat):Int)):Nat):Int)],obj g10 37 (clState sx A6 n7 c8)] hs222
 exact ⟨H184,v213,cs216,(.pointer none),(MB.mk m_n m_self cz189 (GViewID.mk ((m_high + 1) % 18446744073709551616) ((m_self:Nat):Int)) ((m_high + 1) % 18446744073709551616) (some pz195) jz190 m_os),g163,A191,jn192,jc193,sv196,sc197,hle185,rfl,ok214,hk217,InstAt.none',(okm218.okS okp221),rfl,((hs223.p1).drop.p1).drop⟩
 obtain ⟨A228,n229,c230,rfl,b224,⟨b225,b226⟩,b227,hl231⟩:=hrp204
 have:=hl231.len; have:n229 * 48 ≤ 140737488351232:=hl231.bnd; have:=hl231.le
 have hat205:∀ {w:World} {L:List Res},St H184 w L → At w ⟨gi200,0,none⟩ [.int .u64 ((yi199.View.ID.N:Nat):Int),.int .i64 yi199.View.ID.P,.int .u16 ((yi199.View.Set:Nat):Int),.slice A228 n229 c230]:=fun h => hrd203.hat h
 refine st (v:=.bool true) (x_neqP Tryd.underlying28 (.tmp rfl rfl) .const rfl) ?_
 refine c_nil (n_then (c_cond_t (t:=true) (.tmp rfl rfl) rfl ?_))
 refine c_seq (c_region (st (v:=.pointer (some ⟨gi200,0,none⟩)) (x_move (.tmp rfl rfl)) ?_))
 refine st (v:=.slice none 0 0) (x_assign .const) ?_
 refine st (v:=.pointer (some ⟨gi200,0,none⟩)) (x_assign (.tmp rfl rfl)) ?_
 refine c_nil (n_then (c_ret (r_then (leave_ret (res_two (v:=.slice none 0 0) (u:=.pointer (some ⟨gi200,0,none⟩)) rfl (.mk rfl rfl) (.mk rfl rfl)) ?_))))
 have hpq:(MB.tick (MB.mk m_n m_self m_cur m_prom m_high none m_jl m_os) est sx) = _:=tick_done rfl hc56 hme198 hX202 rfl
 rw [hpq]
 have hs232:=hs183.krowNil 53 kOut
 have okm234:MemB H184 m_n m_self cz189 (GViewID.mk ((m_high + 1) % 18446744073709551616) ((m_self:Nat):Int)) ((m_high + 1) % 18446744073709551616) A191 jn192 jc193 jz190 m_os:=⟨hn1_m,hn16_m,hsf_m,⟨okm188.cur.n,okm188.cur.p⟩,okm188.set,⟨okm188.prom.n,okm188.prom.p⟩,okm188.high,okm188.joined,okm188.len,okm188.oth⟩
 have hs235:=hs232.p3
 have hs236:=hs235.p3
 have okp237:PropOk H184 pz195 sv196 sc197:=⟨⟨hkp194.id.n,hkp194.id.p⟩,hkp194.set,hkp194.who,hkp194.ok,hkp194.hk⟩
 have hs238:=hs236.p3
 have hs239:St H184 _ (row 53 16 (.slice none 0 0) (([]:List GOut).length) []::obj g63 39 [.int .u64 ((((m_high + 1) % 18446744073709551616):Nat):Int),.int .i64 ((m_self:Nat):Int),.int .u16 (((wth (est &&& (2 ^ m_n - 1)) ((m_self:Nat):Int)):Nat):Int)]::obj g10 37 (clState sx A6 n7 c8)::memR 78 81 37 g_m g163 A191 jn192 jc193 sv196 sc197 (MB.mk m_n m_self cz189 (GViewID.mk ((m_high + 1) % 18446744073709551616) ((m_self:Nat):Int)) ((m_high + 1) % 18446744073709551616) (some pz195) jz190 m_os) ++ (L)):=St.foldS (TP:=81) (TS:=37) (gp:=g163) (sv:=sv196) (sc:=sc197) [row 53 16 (.slice none 0 0) (([]:List GOut).length) [],obj g63 39 [.int .u64 ((((m_high + 1) % 18446744073709551616):Nat):Int),.int .i64 ((m_self:Nat):Int),.int .u16 (((wth (est &&& (2 ^ m_n - 1)) ((m_self:Nat):Int)):Nat):Int)],obj g10 37 (clState sx A6 n7 c8)] hs238
 exact ⟨H184,(.slice none 0 0),[],.pointer (some ⟨gi200,0,none⟩),(MB.mk m_n m_self cz189 (GViewID.mk ((m_high + 1) % 18446744073709551616) ((m_self:Nat):Int)) ((m_high + 1) % 18446744073709551616) (some pz195) jz190 m_os),g163,A191,jn192,jc193,sv196,sc197,hle185,rfl,(RowOk.knil kOut),(Kn.rows_nil _ _),(InstAt.some_of rfl hrd203 ⟨A228,n229,c230,rfl,b224,⟨b225,b226⟩,b227,hl231⟩),(okm234.okS okp237),rfl,((hs239.p1).drop.p1).drop⟩
 refine u_eff (k:=16) rfl ?_
 have hs240:=hs74.p1
 refine st_m0 (sto34 (cs':=((.int .i64 ((m_n:Nat):Int))::(.int .i64 ((m_self:Nat):Int))::(.int .u64 ((m_cur.ID.N:Nat):Int))::(.int .i64 m_cur.ID.P)::(.int .u16 ((m_cur.Set:Nat):Int))::(.int .u64 ((((m_high + 1) % 18446744073709551616):Nat):Int))::(.int .i64 ((m_self:Nat):Int))::(.int .u64 ((((m_high + 1) % 18446744073709551616):Nat):Int))::(.pointer none)::(.slice A_m jn_m jc_m)::oCells m_os)) (i:=0 + 5) hs240 (v:=.agg #[.int .u64 ((((m_high + 1) % 18446744073709551616):Nat):Int),.int .i64 ((m_self:Nat):Int)]) (.tmp rfl rfl) (.tmp rfl rfl) rfl (Nat.le_of_ble_eq_true rfl) (oneA rfl) rfl) ?_
 rintro w241 hs243
 refine u_new (S':=fun u => St H u (obj g_m 78 ((.int .i64 ((m_n:Nat):Int))::(.int .i64 ((m_self:Nat):Int))::(.int .u64 ((m_cur.ID.N:Nat):Int))::(.int .i64 m_cur.ID.P)::(.int .u16 ((m_cur.Set:Nat):Int))::(.int .u64 ((((m_high + 1) % 18446744073709551616):Nat):Int))::(.int .i64 ((m_self:Nat):Int))::(.int .u64 ((((m_high + 1) % 18446744073709551616):Nat):Int))::(.pointer none)::(.slice A_m jn_m jc_m)::oCells m_os)::obj g63 39 [.int .u64 ((((m_high + 1) % 18446744073709551616):Nat):Int),.int .i64 ((m_self:Nat):Int),.int .u16 (((wth (est &&& (2 ^ m_n - 1)) ((m_self:Nat):Int)):Nat):Int)]::obj g10 37 (clState sx A6 n7 c8)::L)) rfl (fun u hu => hu.drop) hs243 ?_
 refine u_eff (k:=11) rfl ?_
 refine st_m (m_lit (n:=1) (ps:=[(0,.agg #[.int .u64 ((sx.V.N:Nat):Int),.int .i64 sx.V.P,.int .i64 sx.Floor,.slice A6 n7 c8])]) (cs:=[.int .u64 ((sx.V.N:Nat):Int),.int .i64 sx.V.P,.int .i64 sx.Floor,.slice A6 n7 c8]) Tryd.underlying40 inf37 (.cons (.tmp rfl rfl) Evp.nil) (by decide) (by decide) rfl rfl hs243) ?_
 rintro _ w245 ⟨g244,rfl,hs247⟩
 refine u_on (S':=fun u => St H u (obj g244 37 (clState sx A6 n7 c8)::obj g_m 78 ((.int .i64 ((m_n:Nat):Int))::(.int .i64 ((m_self:Nat):Int))::(.int .u64 ((m_cur.ID.N:Nat):Int))::(.int .i64 m_cur.ID.P)::(.int .u16 ((m_cur.Set:Nat):Int))::(.int .u64 ((((m_high + 1) % 18446744073709551616):Nat):Int))::(.int .i64 ((m_self:Nat):Int))::(.int .u64 ((((m_high + 1) % 18446744073709551616):Nat):Int))::(.pointer none)::(.slice A_m jn_m jc_m)::oCells m_os)::obj g63 39 [.int .u64 ((((m_high + 1) % 18446744073709551616):Nat):Int),.int .i64 ((m_self:Nat):Int),.int .u16 (((wth (est &&& (2 ^ m_n - 1)) ((m_self:Nat):Int)):Nat):Int)]::obj g10 37 (clState sx A6 n7 c8)::L)) (fun u hu => hu.drop) (fun u hu => hu.drop.drop) hs247 ?_
 refine u_fr (k:=12) (v:=.agg #[.int .u64 ((((m_high + 1) % 18446744073709551616):Nat):Int),.int .i64 ((m_self:Nat):Int),.int .u16 (((wth (est &&& (2 ^ m_n - 1)) ((m_self:Nat):Int)):Nat):Int),.int .u16 (((wth 0 ((m_self:Nat):Int)):Nat):Int),.slice (some ⟨g244,0,none⟩) 1 1,.bool false]) rfl rfl (fun w hs => (bl81 (ps:=[(0,.agg #[.int .u64 ((((m_high + 1) % 18446744073709551616):Nat):Int),.int .i64 ((m_self:Nat):Int),.int .u16 (((wth (est &&& (2 ^ m_n - 1)) ((m_self:Nat):Int)):Nat):Int)]),(1,.int .u16 (((wth 0 ((m_self:Nat):Int)):Nat):Int)),(2,.slice (some ⟨g244,0,none⟩) 1 1)]) (.cons (.tmp rfl rfl) (.cons (.tmp rfl rfl) (.cons (.tmp rfl rfl) Evp.nil))) rfl)) ?_
 refine u_eff (k:=13) rfl ?_
 refine st_m (m_box (cs:=[.int .u64 ((((m_high + 1) % 18446744073709551616):Nat):Int),.int .i64 ((m_self:Nat):Int),.int .u16 (((wth (est &&& (2 ^ m_n - 1)) ((m_self:Nat):Int)):Nat):Int),.int .u16 (((wth 0 ((m_self:Nat):Int)):Nat):Int),.slice (some ⟨g244,0,none⟩) 1 1,.bool false]) hs247 (v:=.agg #[.int .u64 ((((m_high + 1) % 18446744073709551616):Nat):Int),.int .i64 ((m_self:Nat):Int),.int .u16 (((wth (est &&& (2 ^ m_n - 1)) ((m_self:Nat):Int)):Nat):Int),.int .u16 (((wth 0 ((m_self:Nat):Int)):Nat):Int),.slice (some ⟨g244,0,none⟩) 1 1,.bool false]) (.tmp rfl rfl) rfl) ?_
 rintro _ w249 ⟨g248,rfl,hs251⟩
 refine u_on (S':=fun u => St H u (obj g248 81 [.int .u64 ((((m_high + 1) % 18446744073709551616):Nat):Int),.int .i64 ((m_self:Nat):Int),.int .u16 (((wth (est &&& (2 ^ m_n - 1)) ((m_self:Nat):Int)):Nat):Int),.int .u16 (((wth 0 ((m_self:Nat):Int)):Nat):Int),.slice (some ⟨g244,0,none⟩) 1 1,.bool false]::obj g244 37 (clState sx A6 n7 c8)::obj g_m 78 ((.int .i64 ((m_n:Nat):Int))::(.int .i64 ((m_self:Nat):Int))::(.int .u64 ((m_cur.ID.N:Nat):Int))::(.int .i64 m_cur.ID.P)::(.int .u16 ((m_cur.Set:Nat):Int))::(.int .u64 ((((m_high + 1) % 18446744073709551616):Nat):Int))::(.int .i64 ((m_self:Nat):Int))::(.int .u64 ((((m_high + 1) % 18446744073709551616):Nat):Int))::(.pointer none)::(.slice A_m jn_m jc_m)::oCells m_os)::obj g63 39 [.int .u64 ((((m_high + 1) % 18446744073709551616):Nat):Int),.int .i64 ((m_self:Nat):Int),.int .u16 (((wth (est &&& (2 ^ m_n - 1)) ((m_self:Nat):Int)):Nat):Int)]::obj g10 37 (clState sx A6 n7 c8)::L)) (fun u hu => hu.drop) (fun u hu => hu.drop.drop.drop) hs251 ?_
 refine u_st (k:=17) (v:=.pointer (some ⟨g_m,0,none⟩)) rfl rfl (fun w hs => (x_nilCheck (.tmp rfl rfl))) ?_
 refine u_st (k:=18) (v:=.pointer (some ⟨g_m,0 + 8,none⟩)) rfl rfl (fun w hs => (fa78_5 (.tmp rfl rfl))) ?_
 refine u_eff (k:=19) rfl ?_
 have hs252:=hs251.p2
 refine st_m0 (sto75 (cs':=((.int .i64 ((m_n:Nat):Int))::(.int .i64 ((m_self:Nat):Int))::(.int .u64 ((m_cur.ID.N:Nat):Int))::(.int .i64 m_cur.ID.P)::(.int .u16 ((m_cur.Set:Nat):Int))::(.int .u64 ((((m_high + 1) % 18446744073709551616):Nat):Int))::(.int .i64 ((m_self:Nat):Int))::(.int .u64 ((((m_high + 1) % 18446744073709551616):Nat):Int))::(.pointer (some ⟨g248,0,none⟩))::(.slice A_m jn_m jc_m)::oCells m_os)) (i:=0 + 8) hs252 (v:=.pointer (some ⟨g248,0,none⟩)) (.tmp rfl rfl) (.tmp rfl rfl) rfl (Nat.le_of_ble_eq_true rfl) one1 rfl) ?_
 rintro w253 hs255
 refine u_new (S':=fun u => St H u (obj g_m 78 ((.int .i64 ((m_n:Nat):Int))::(.int .i64 ((m_self:Nat):Int))::(.int .u64 ((m_cur.ID.N:Nat):Int))::(.int .i64 m_cur.ID.P)::(.int .u16 ((m_cur.Set:Nat):Int))::(.int .u64 ((((m_high + 1) % 18446744073709551616):Nat):Int))::(.int .i64 ((m_self:Nat):Int))::(.int .u64 ((((m_high + 1) % 18446744073709551616):Nat):Int))::(.pointer (some ⟨g248,0,none⟩))::(.slice A_m jn_m jc_m)::oCells m_os)::obj g248 81 [.int .u64 ((((m_high + 1) % 18446744073709551616):Nat):Int),.int .i64 ((m_self:Nat):Int),.int .u16 (((wth (est &&& (2 ^ m_n - 1)) ((m_self:Nat):Int)):Nat):Int),.int .u16 (((wth 0 ((m_self:Nat):Int)):Nat):Int),.slice (some ⟨g244,0,none⟩) 1 1,.bool false]::obj g244 37 (clState sx A6 n7 c8)::obj g63 39 [.int .u64 ((((m_high + 1) % 18446744073709551616):Nat):Int),.int .i64 ((m_self:Nat):Int),.int .u16 (((wth (est &&& (2 ^ m_n - 1)) ((m_self:Nat):Int)):Nat):Int)]::obj g10 37 (clState sx A6 n7 c8)::L)) rfl (fun u hu => hu.drop.drop.drop) hs255 ?_
 refine u_nil ?_
 refine n_then (c_seq (c_region (st (v:=.pointer (some ⟨g_m,0,none⟩)) (x_move (.tmp rfl hρ51)) ?_)))
 have hs256:=hs255.p2
 have hr261:kState.rep H sx [.int .u64 ((sx.V.N:Nat):Int),.int .i64 sx.V.P,.int .i64 sx.Floor,.slice A6 n7 c8]:=⟨A6,n7,c8,rfl,b1,⟨b2,b3⟩,⟨b4,b5⟩,hl9⟩
 obtain ⟨hs258,ok259⟩:=hs256.rowOfObj (n:=1) (size:=kState.sz) rfl (by decide)
 have hk260:kState.toKn.rows H [sx] [.int .u64 ((sx.V.N:Nat):Int),.int .i64 sx.V.P,.int .i64 sx.Floor,.slice A6 n7 c8]:=Kn.rows_one hr261
 have:([sx]:List GState).length = 1:=rfl
 have hs262:St H _ (row 37 4 (.slice (some ⟨g244,0,none⟩) 1 1) (([sx]:List GState).length) [.int .u64 ((sx.V.N:Nat):Int),.int .i64 sx.V.P,.int .i64 sx.Floor,.slice A6 n7 c8]::obj g_m 78 ((.int .i64 ((m_n:Nat):Int))::(.int .i64 ((m_self:Nat):Int))::(.int .u64 ((m_cur.ID.N:Nat):Int))::(.int .i64 m_cur.ID.P)::(.int .u16 ((m_cur.Set:Nat):Int))::(.int .u64 ((((m_high + 1) % 18446744073709551616):Nat):Int))::(.int .i64 ((m_self:Nat):Int))::(.int .u64 ((((m_high + 1) % 18446744073709551616):Nat):Int))::(.pointer (some ⟨g248,0,none⟩))::(.slice A_m jn_m jc_m)::oCells m_os)::obj g248 81 [.int .u64 ((((m_high + 1) % 18446744073709551616):Nat):Int),.int .i64 ((m_self:Nat):Int),.int .u16 (((wth (est &&& (2 ^ m_n - 1)) ((m_self:Nat):Int)):Nat):Int),.int .u16 (((wth 0 ((m_self:Nat):Int)):Nat):Int),.slice (some ⟨g244,0,none⟩) 1 1,.bool false]::obj g63 39 [.int .u64 ((((m_high + 1) % 18446744073709551616):Nat):Int),.int .i64 ((m_self:Nat):Int),.int .u16 (((wth (est &&& (2 ^ m_n - 1)) ((m_self:Nat):Int)):Nat):Int)]::obj g10 37 (clState sx A6 n7 c8)::L):=hs258
 have hs263:=hs262.p2
 have hs264:=hs263.p2
 have okm265:MemB H m_n m_self m_cur (GViewID.mk ((m_high + 1) % 18446744073709551616) ((m_self:Nat):Int)) ((m_high + 1) % 18446744073709551616) A_m jn_m jc_m m_jl m_os:=⟨hn1_m,hn16_m,hsf_m,⟨ok_m.cur.n,ok_m.cur.p⟩,ok_m.set,⟨(Nat.mod_lt _ (by decide)),(show IB ((m_self:Nat):Int) from ⟨by omega,by omega⟩)⟩,(Nat.mod_lt _ (by decide)),ok_m.joined,ok_m.len,ok_m.oth⟩
 have okp266:PropOk H (GProp.mk (GView.mk (GViewID.mk ((m_high + 1) % 18446744073709551616) ((m_self:Nat):Int)) (wth (est &&& (2 ^ m_n - 1)) ((m_self:Nat):Int))) (wth 0 ((m_self:Nat):Int)) ([sx]:List GState) false) (.slice (some ⟨g244,0,none⟩) 1 1) [.int .u64 ((sx.V.N:Nat):Int),.int .i64 sx.V.P,.int .i64 sx.Floor,.slice A6 n7 c8]:=⟨⟨(Nat.mod_lt _ (by decide)),(show IB ((m_self:Nat):Int) from ⟨by omega,by omega⟩)⟩,(wth_lt hb15 ((m_self:Nat):Int)),(wth_lt (by decide) ((m_self:Nat):Int)),ok259,hk260⟩
 refine st_c cb27 .func (evs1 (.tmp rfl rfl)) (agree_S hs264 (p_m:=(GProp.mk (GView.mk (GViewID.mk ((m_high + 1) % 18446744073709551616) ((m_self:Nat):Int)) (wth (est &&& (2 ^ m_n - 1)) ((m_self:Nat):Int))) (wth 0 ((m_self:Nat):Int)) ([sx]:List GState) false)) (m_n:=m_n) (m_self:=m_self) (m_cur:=m_cur) (m_prom:=(GViewID.mk ((m_high + 1) % 18446744073709551616) ((m_self:Nat):Int))) (m_high:=((m_high + 1) % 18446744073709551616)) (m_jl:=m_jl) (m_os:=m_os) okm265 okp266 (by simp) (fun s hs => by rw [List.mem_singleton.1 hs]; exact hfl)) ?_
 rintro e w267 ⟨H269,iv271,cz274,jz275,A276,jn277,jc278,pz280,sv281,sc282,hle270,rfl,hin272,okm273,hkp279,hme283,hs268⟩
 refine ⟨_,rfl,?_⟩
 refine st (v:=iv271) (x_assign (.tmp rfl rfl)) ?_
 refine c_nil (n_then (c_seq (c_region (st (v:=iv271) (x_move (.tmp rfl rfl)) ?_))))
 rcases InstAt.cases hin272 with ⟨hX287,rfl⟩ | ⟨yi284,gi285,ci286,hX287,rfl,hrd288,hrp289⟩
 refine st (v:=.bool false) (x_neqP Tryd.underlying28 (.tmp rfl rfl) .const rfl) ?_
 refine c_nil (n_then (c_cond_f (t:=false) (.tmp rfl rfl) rfl ?_))
 refine c_skip (n_then (c_seq (c_region (st (v:=.pointer (some ⟨g_m,0,none⟩)) (x_move (.tmp rfl hρ51)) ?_))))
 have hs291:=hs268.p2
 have hs292:=hs291.p2
 have hs293:=hs292.p2
 have okm294:MemB H269 m_n m_self cz274 (GViewID.mk ((m_high + 1) % 18446744073709551616) ((m_self:Nat):Int)) ((m_high + 1) % 18446744073709551616) A276 jn277 jc278 jz275 m_os:=⟨hn1_m,hn16_m,hsf_m,⟨okm273.cur.n,okm273.cur.p⟩,okm273.set,⟨okm273.prom.n,okm273.prom.p⟩,okm273.high,okm273.joined,okm273.len,okm273.oth⟩
 have okp295:PropOk H269 pz280 sv281 sc282:=⟨⟨hkp279.id.n,hkp279.id.p⟩,hkp279.set,hkp279.who,hkp279.ok,hkp279.hk⟩
 refine st_c cb28 .func (evs1 (.tmp rfl rfl)) (again_S hs293 (p_m:=pz280) (m_n:=m_n) (m_self:=m_self) (m_cur:=cz274) (m_prom:=(GViewID.mk ((m_high + 1) % 18446744073709551616) ((m_self:Nat):Int))) (m_high:=((m_high + 1) % 18446744073709551616)) (m_jl:=jz275) (m_os:=m_os) okm294 okp295 (htab.mono hle270)) ?_
 rintro e w296 ⟨v298,cs301,rfl,ok299,hk302,hs297⟩
 refine ⟨_,rfl,?_⟩
 refine st (v:=v298) (x_assign (.tmp rfl rfl)) ?_
 refine st (v:=.pointer none) (x_assign .const) ?_
 refine c_nil (n_then (c_ret (leave_ret (res_two (v:=v298) (u:=.pointer none) rfl (.mk rfl rfl) (.mk rfl rfl)) ?_)))
 have hpq:(MB.tick (MB.mk m_n m_self m_cur m_prom m_high none m_jl m_os) est sx) = _:=tick_wait rfl hc56 hme283 hX287 rfl
 rw [hpq]
 have okm303:MemB H269 m_n m_self cz274 (GViewID.mk ((m_high + 1) % 18446744073709551616) ((m_self:Nat):Int)) ((m_high + 1) % 18446744073709551616) A276 jn277 jc278 jz275 m_os:=⟨hn1_m,hn16_m,hsf_m,⟨okm273.cur.n,okm273.cur.p⟩,okm273.set,⟨okm273.prom.n,okm273.prom.p⟩,okm273.high,okm273.joined,okm273.len,okm273.oth⟩
 have hs304:=hs297.p3
 have hs305:=hs304.p3
 have okp306:PropOk H269 pz280 sv281 sc282:=⟨⟨hkp279.id.n,hkp279.id.p⟩,hkp279.set,hkp279.who,hkp279.ok,hkp279.hk⟩
 have hs307:=hs305.p3
 have hs308:St H269 _ (row 53 16 v298 ((MB.again (MB.mk m_n m_self cz274 (GViewID.mk ((m_high + 1) % 18446744073709551616) ((m_self:Nat):Int)) ((m_high + 1) % 18446744073709551616) (some pz280) jz275 m_os)).length) cs301::obj g63 39 [.int .u64 ((((m_high + 1) % 18446744073709551616):Nat):Int),.int .i64 ((m_self:Nat):Int),.int .u16 (((wth (est &&& (2 ^ m_n - 1)) ((m_self:Nat):Int)):Nat):Int)]::obj g10 37 (clState sx A6 n7 c8)::memR 78 81 37 g_m g248 A276 jn277 jc278 sv281 sc282 (MB.mk m_n m_self cz274 (GViewID.mk ((m_high + 1) % 18446744073709551616) ((m_self:Nat):Int)) ((m_high + 1) % 18446744073709551616) (some pz280) jz275 m_os) ++ (L)):=St.foldS (TP:=81) (TS:=37) (gp:=g248) (sv:=sv281) (sc:=sc282) [row 53 16 v298 ((MB.again (MB.mk m_n m_self cz274 (GViewID.mk ((m_high + 1) % 18446744073709551616) ((m_self:Nat):Int)) ((m_high + 1) % 18446744073709551616) (some pz280) jz275 m_os)).length) cs301,obj g63 39 [.int .u64 ((((m_high + 1) % 18446744073709551616):Nat):Int),.int .i64 ((m_self:Nat):Int),.int .u16 (((wth (est &&& (2 ^ m_n - 1)) ((m_self:Nat):Int)):Nat):Int)],obj g10 37 (clState sx A6 n7 c8)] hs307
 exact ⟨H269,v298,cs301,(.pointer none),(MB.mk m_n m_self cz274 (GViewID.mk ((m_high + 1) % 18446744073709551616) ((m_self:Nat):Int)) ((m_high + 1) % 18446744073709551616) (some pz280) jz275 m_os),g248,A276,jn277,jc278,sv281,sc282,hle270,rfl,ok299,hk302,InstAt.none',(okm303.okS okp306),rfl,((hs308.p1).drop.p1).drop⟩
 obtain ⟨A313,n314,c315,rfl,b309,⟨b310,b311⟩,b312,hl316⟩:=hrp289
 have:=hl316.len; have:n314 * 48 ≤ 140737488351232:=hl316.bnd; have:=hl316.le
 have hat290:∀ {w:World} {L:List Res},St H269 w L → At w ⟨gi285,0,none⟩ [.int .u64 ((yi284.View.ID.N:Nat):Int),.int .i64 yi284.View.ID.P,.int .u16 ((yi284.View.Set:Nat):Int),.slice A313 n314 c315]:=fun h => hrd288.hat h
 refine st (v:=.bool true) (x_neqP Tryd.underlying28 (.tmp rfl rfl) .const rfl) ?_
 refine c_nil (n_then (c_cond_t (t:=true) (.tmp rfl rfl) rfl ?_))
 refine c_seq (c_region (st (v:=.pointer (some ⟨gi285,0,none⟩)) (x_move (.tmp rfl rfl)) ?_))
 refine st (v:=.slice none 0 0) (x_assign .const) ?_
 refine st (v:=.pointer (some ⟨gi285,0,none⟩)) (x_assign (.tmp rfl rfl)) ?_
 refine c_nil (n_then (c_ret (r_then (leave_ret (res_two (v:=.slice none 0 0) (u:=.pointer (some ⟨gi285,0,none⟩)) rfl (.mk rfl rfl) (.mk rfl rfl)) ?_))))
 have hpq:(MB.tick (MB.mk m_n m_self m_cur m_prom m_high none m_jl m_os) est sx) = _:=tick_done rfl hc56 hme283 hX287 rfl
 rw [hpq]
 have hs317:=hs268.krowNil 53 kOut
 have okm319:MemB H269 m_n m_self cz274 (GViewID.mk ((m_high + 1) % 18446744073709551616) ((m_self:Nat):Int)) ((m_high + 1) % 18446744073709551616) A276 jn277 jc278 jz275 m_os:=⟨hn1_m,hn16_m,hsf_m,⟨okm273.cur.n,okm273.cur.p⟩,okm273.set,⟨okm273.prom.n,okm273.prom.p⟩,okm273.high,okm273.joined,okm273.len,okm273.oth⟩
 have hs320:=hs317.p3
 have hs321:=hs320.p3
 have okp322:PropOk H269 pz280 sv281 sc282:=⟨⟨hkp279.id.n,hkp279.id.p⟩,hkp279.set,hkp279.who,hkp279.ok,hkp279.hk⟩
 have hs323:=hs321.p3
 have hs324:St H269 _ (row 53 16 (.slice none 0 0) (([]:List GOut).length) []::obj g63 39 [.int .u64 ((((m_high + 1) % 18446744073709551616):Nat):Int),.int .i64 ((m_self:Nat):Int),.int .u16 (((wth (est &&& (2 ^ m_n - 1)) ((m_self:Nat):Int)):Nat):Int)]::obj g10 37 (clState sx A6 n7 c8)::memR 78 81 37 g_m g248 A276 jn277 jc278 sv281 sc282 (MB.mk m_n m_self cz274 (GViewID.mk ((m_high + 1) % 18446744073709551616) ((m_self:Nat):Int)) ((m_high + 1) % 18446744073709551616) (some pz280) jz275 m_os) ++ (L)):=St.foldS (TP:=81) (TS:=37) (gp:=g248) (sv:=sv281) (sc:=sc282) [row 53 16 (.slice none 0 0) (([]:List GOut).length) [],obj g63 39 [.int .u64 ((((m_high + 1) % 18446744073709551616):Nat):Int),.int .i64 ((m_self:Nat):Int),.int .u16 (((wth (est &&& (2 ^ m_n - 1)) ((m_self:Nat):Int)):Nat):Int)],obj g10 37 (clState sx A6 n7 c8)] hs323
 exact ⟨H269,(.slice none 0 0),[],.pointer (some ⟨gi285,0,none⟩),(MB.mk m_n m_self cz274 (GViewID.mk ((m_high + 1) % 18446744073709551616) ((m_self:Nat):Int)) ((m_high + 1) % 18446744073709551616) (some pz280) jz275 m_os),g248,A276,jn277,jc278,sv281,sc282,hle270,rfl,(RowOk.knil kOut),(Kn.rows_nil _ _),(InstAt.some_of rfl hrd288 ⟨A313,n314,c315,rfl,b309,⟨b310,b311⟩,b312,hl316⟩),(okm319.okS okp322),rfl,((hs324.p1).drop.p1).drop⟩
 refine u_eff (k:=11) rfl ?_
 refine st_m (m_lit (n:=1) (ps:=[(0,.agg #[.int .u64 ((sx.V.N:Nat):Int),.int .i64 sx.V.P,.int .i64 sx.Floor,.slice A6 n7 c8])]) (cs:=[.int .u64 ((sx.V.N:Nat):Int),.int .i64 sx.V.P,.int .i64 sx.Floor,.slice A6 n7 c8]) Tryd.underlying40 inf37 (.cons (.tmp rfl rfl) Evp.nil) (by decide) (by decide) rfl rfl hs72) ?_
 rintro _ w326 ⟨g325,rfl,hs328⟩
 refine u_on (S':=fun u => St H u (obj g325 37 (clState sx A6 n7 c8)::obj g63 39 [.int .u64 ((((m_high + 1) % 18446744073709551616):Nat):Int),.int .i64 ((m_self:Nat):Int),.int .u16 (((wth (est &&& (2 ^ m_n - 1)) ((m_self:Nat):Int)):Nat):Int)]::obj g_m 78 ((.int .i64 ((m_n:Nat):Int))::(.int .i64 ((m_self:Nat):Int))::(.int .u64 ((m_cur.ID.N:Nat):Int))::(.int .i64 m_cur.ID.P)::(.int .u16 ((m_cur.Set:Nat):Int))::(.int .u64 ((m_prom.N:Nat):Int))::(.int .i64 m_prom.P)::(.int .u64 ((((m_high + 1) % 18446744073709551616):Nat):Int))::(.pointer none)::(.slice A_m jn_m jc_m)::oCells m_os)::obj g10 37 (clState sx A6 n7 c8)::L)) (fun u hu => hu.drop) (fun u hu => (hu.drop.p1).drop) hs328 ?_
 refine u_eff (k:=9) rfl ?_
 refine st_c cb24 .func (evs2 .const (.tmp rfl rfl)) (with_spec hs328 0 ((m_self:Nat):Int) (by decide) (by omega)) ?_
 rintro e w329 ⟨rfl,hs330⟩
 refine ⟨_,rfl,?_⟩
 refine u_on (S':=fun u => St H u (obj g325 37 (clState sx A6 n7 c8)::obj g63 39 [.int .u64 ((((m_high + 1) % 18446744073709551616):Nat):Int),.int .i64 ((m_self:Nat):Int),.int .u16 (((wth (est &&& (2 ^ m_n - 1)) ((m_self:Nat):Int)):Nat):Int)]::obj g_m 78 ((.int .i64 ((m_n:Nat):Int))::(.int .i64 ((m_self:Nat):Int))::(.int .u64 ((m_cur.ID.N:Nat):Int))::(.int .i64 m_cur.ID.P)::(.int .u16 ((m_cur.Set:Nat):Int))::(.int .u64 ((m_prom.N:Nat):Int))::(.int .i64 m_prom.P)::(.int .u64 ((((m_high + 1) % 18446744073709551616):Nat):Int))::(.pointer none)::(.slice A_m jn_m jc_m)::oCells m_os)::obj g10 37 (clState sx A6 n7 c8)::L)) (fun u hu => hu) (fun u hu => (hu.drop.p1).drop) hs330 ?_
 refine u_fr (k:=12) (v:=.agg #[.int .u64 ((((m_high + 1) % 18446744073709551616):Nat):Int),.int .i64 ((m_self:Nat):Int),.int .u16 (((wth (est &&& (2 ^ m_n - 1)) ((m_self:Nat):Int)):Nat):Int),.int .u16 (((wth 0 ((m_self:Nat):Int)):Nat):Int),.slice (some ⟨g325,0,none⟩) 1 1,.bool false]) rfl rfl (fun w hs => (bl81 (ps:=[(0,.agg #[.int .u64 ((((m_high + 1) % 18446744073709551616):Nat):Int),.int .i64 ((m_self:Nat):Int),.int .u16 (((wth (est &&& (2 ^ m_n - 1)) ((m_self:Nat):Int)):Nat):Int)]),(1,.int .u16 (((wth 0 ((m_self:Nat):Int)):Nat):Int)),(2,.slice (some ⟨g325,0,none⟩) 1 1)]) (.cons (.tmp rfl rfl) (.cons (.tmp rfl rfl) (.cons (.tmp rfl rfl) Evp.nil))) rfl)) ?_
 refine u_st (k:=14) (v:=.pointer (some ⟨g_m,0,none⟩)) rfl rfl (fun w hs => (x_nilCheck (.tmp rfl rfl))) ?_
 refine u_st (k:=15) (v:=.pointer (some ⟨g_m,0 + 5,none⟩)) rfl rfl (fun w hs => (fa78_3 (.tmp rfl rfl))) ?_
 refine u_two ?_ ?_
 refine u_eff (k:=13) rfl ?_
 refine st_m (m_box (cs:=[.int .u64 ((((m_high + 1) % 18446744073709551616):Nat):Int),.int .i64 ((m_self:Nat):Int),.int .u16 (((wth (est &&& (2 ^ m_n - 1)) ((m_self:Nat):Int)):Nat):Int),.int .u16 (((wth 0 ((m_self:Nat):Int)):Nat):Int),.slice (some ⟨g325,0,none⟩) 1 1,.bool false]) hs330 (v:=.agg #[.int .u64 ((((m_high + 1) % 18446744073709551616):Nat):Int),.int .i64 ((m_self:Nat):Int),.int .u16 (((wth (est &&& (2 ^ m_n - 1)) ((m_self:Nat):Int)):Nat):Int),.int .u16 (((wth 0 ((m_self:Nat):Int)):Nat):Int),.slice (some ⟨g325,0,none⟩) 1 1,.bool false]) (.tmp rfl rfl) rfl) ?_
 rintro _ w332 ⟨g331,rfl,hs334⟩
 refine u_on (S':=fun u => St H u (obj g331 81 [.int .u64 ((((m_high + 1) % 18446744073709551616):Nat):Int),.int .i64 ((m_self:Nat):Int),.int .u16 (((wth (est &&& (2 ^ m_n - 1)) ((m_self:Nat):Int)):Nat):Int),.int .u16 (((wth 0 ((m_self:Nat):Int)):Nat):Int),.slice (some ⟨g325,0,none⟩) 1 1,.bool false]::obj g325 37 (clState sx A6 n7 c8)::obj g63 39 [.int .u64 ((((m_high + 1) % 18446744073709551616):Nat):Int),.int .i64 ((m_self:Nat):Int),.int .u16 (((wth (est &&& (2 ^ m_n - 1)) ((m_self:Nat):Int)):Nat):Int)]::obj g_m 78 ((.int .i64 ((m_n:Nat):Int))::(.int .i64 ((m_self:Nat):Int))::(.int .u64 ((m_cur.ID.N:Nat):Int))::(.int .i64 m_cur.ID.P)::(.int .u16 ((m_cur.Set:Nat):Int))::(.int .u64 ((m_prom.N:Nat):Int))::(.int .i64 m_prom.P)::(.int .u64 ((((m_high + 1) % 18446744073709551616):Nat):Int))::(.pointer none)::(.slice A_m jn_m jc_m)::oCells m_os)::obj g10 37 (clState sx A6 n7 c8)::L)) (fun u hu => hu.drop) (fun u hu => (hu.drop.drop.p1).drop) hs334 ?_
 refine u_eff (k:=16) rfl ?_
 have hs335:=hs334.p3
 refine st_m0 (sto34 (cs':=((.int .i64 ((m_n:Nat):Int))::(.int .i64 ((m_self:Nat):Int))::(.int .u64 ((m_cur.ID.N:Nat):Int))::(.int .i64 m_cur.ID.P)::(.int .u16 ((m_cur.Set:Nat):Int))::(.int .u64 ((((m_high + 1) % 18446744073709551616):Nat):Int))::(.int .i64 ((m_self:Nat):Int))::(.int .u64 ((((m_high + 1) % 18446744073709551616):Nat):Int))::(.pointer none)::(.slice A_m jn_m jc_m)::oCells m_os)) (i:=0 + 5) hs335 (v:=.agg #[.int .u64 ((((m_high + 1) % 18446744073709551616):Nat):Int),.int .i64 ((m_self:Nat):Int)]) (.tmp rfl rfl) (.tmp rfl rfl) rfl (Nat.le_of_ble_eq_true rfl) (oneA rfl) rfl) ?_
 rintro w336 hs338
 refine u_new (S':=fun u => St H u (obj g_m 78 ((.int .i64 ((m_n:Nat):Int))::(.int .i64 ((m_self:Nat):Int))::(.int .u64 ((m_cur.ID.N:Nat):Int))::(.int .i64 m_cur.ID.P)::(.int .u16 ((m_cur.Set:Nat):Int))::(.int .u64 ((((m_high + 1) % 18446744073709551616):Nat):Int))::(.int .i64 ((m_self:Nat):Int))::(.int .u64 ((((m_high + 1) % 18446744073709551616):Nat):Int))::(.pointer none)::(.slice A_m jn_m jc_m)::oCells m_os)::obj g331 81 [.int .u64 ((((m_high + 1) % 18446744073709551616):Nat):Int),.int .i64 ((m_self:Nat):Int),.int .u16 (((wth (est &&& (2 ^ m_n - 1)) ((m_self:Nat):Int)):Nat):Int),.int .u16 (((wth 0 ((m_self:Nat):Int)):Nat):Int),.slice (some ⟨g325,0,none⟩) 1 1,.bool false]::obj g325 37 (clState sx A6 n7 c8)::obj g63 39 [.int .u64 ((((m_high + 1) % 18446744073709551616):Nat):Int),.int .i64 ((m_self:Nat):Int),.int .u16 (((wth (est &&& (2 ^ m_n - 1)) ((m_self:Nat):Int)):Nat):Int)]::obj g10 37 (clState sx A6 n7 c8)::L)) rfl (fun u hu => hu.drop.drop.drop) hs338 ?_
 refine u_st (k:=17) (v:=.pointer (some ⟨g_m,0,none⟩)) rfl rfl (fun w hs => (x_nilCheck (.tmp rfl rfl))) ?_
 refine u_st (k:=18) (v:=.pointer (some ⟨g_m,0 + 8,none⟩)) rfl rfl (fun w hs => (fa78_5 (.tmp rfl rfl))) ?_
 refine u_eff (k:=19) rfl ?_
 refine st_m0 (sto75 (cs':=((.int .i64 ((m_n:Nat):Int))::(.int .i64 ((m_self:Nat):Int))::(.int .u64 ((m_cur.ID.N:Nat):Int))::(.int .i64 m_cur.ID.P)::(.int .u16 ((m_cur.Set:Nat):Int))::(.int .u64 ((((m_high + 1) % 18446744073709551616):Nat):Int))::(.int .i64 ((m_self:Nat):Int))::(.int .u64 ((((m_high + 1) % 18446744073709551616):Nat):Int))::(.pointer (some ⟨g331,0,none⟩))::(.slice A_m jn_m jc_m)::oCells m_os)) (i:=0 + 8) hs338 (v:=.pointer (some ⟨g331,0,none⟩)) (.tmp rfl rfl) (.tmp rfl rfl) rfl (Nat.le_of_ble_eq_true rfl) one1 rfl) ?_
 rintro w339 hs341
 refine u_new (S':=fun u => St H u (obj g_m 78 ((.int .i64 ((m_n:Nat):Int))::(.int .i64 ((m_self:Nat):Int))::(.int .u64 ((m_cur.ID.N:Nat):Int))::(.int .i64 m_cur.ID.P)::(.int .u16 ((m_cur.Set:Nat):Int))::(.int .u64 ((((m_high + 1) % 18446744073709551616):Nat):Int))::(.int .i64 ((m_self:Nat):Int))::(.int .u64 ((((m_high + 1) % 18446744073709551616):Nat):Int))::(.pointer (some ⟨g331,0,none⟩))::(.slice A_m jn_m jc_m)::oCells m_os)::obj g331 81 [.int .u64 ((((m_high + 1) % 18446744073709551616):Nat):Int),.int .i64 ((m_self:Nat):Int),.int .u16 (((wth (est &&& (2 ^ m_n - 1)) ((m_self:Nat):Int)):Nat):Int),.int .u16 (((wth 0 ((m_self:Nat):Int)):Nat):Int),.slice (some ⟨g325,0,none⟩) 1 1,.bool false]::obj g325 37 (clState sx A6 n7 c8)::obj g63 39 [.int .u64 ((((m_high + 1) % 18446744073709551616):Nat):Int),.int .i64 ((m_self:Nat):Int),.int .u16 (((wth (est &&& (2 ^ m_n - 1)) ((m_self:Nat):Int)):Nat):Int)]::obj g10 37 (clState sx A6 n7 c8)::L)) rfl (fun u hu => hu.drop.drop.drop) hs341 ?_
 refine u_nil ?_
 refine n_then (c_seq (c_region (st (v:=.pointer (some ⟨g_m,0,none⟩)) (x_move (.tmp rfl hρ51)) ?_)))
 have hs342:=hs341.p2
 have hr347:kState.rep H sx [.int .u64 ((sx.V.N:Nat):Int),.int .i64 sx.V.P,.int .i64 sx.Floor,.slice A6 n7 c8]:=⟨A6,n7,c8,rfl,b1,⟨b2,b3⟩,⟨b4,b5⟩,hl9⟩
 obtain ⟨hs344,ok345⟩:=hs342.rowOfObj (n:=1) (size:=kState.sz) rfl (by decide)
 have hk346:kState.toKn.rows H [sx] [.int .u64 ((sx.V.N:Nat):Int),.int .i64 sx.V.P,.int .i64 sx.Floor,.slice A6 n7 c8]:=Kn.rows_one hr347
 have:([sx]:List GState).length = 1:=rfl
 have hs348:St H _ (row 37 4 (.slice (some ⟨g325,0,none⟩) 1 1) (([sx]:List GState).length) [.int .u64 ((sx.V.N:Nat):Int),.int .i64 sx.V.P,.int .i64 sx.Floor,.slice A6 n7 c8]::obj g_m 78 ((.int .i64 ((m_n:Nat):Int))::(.int .i64 ((m_self:Nat):Int))::(.int .u64 ((m_cur.ID.N:Nat):Int))::(.int .i64 m_cur.ID.P)::(.int .u16 ((m_cur.Set:Nat):Int))::(.int .u64 ((((m_high + 1) % 18446744073709551616):Nat):Int))::(.int .i64 ((m_self:Nat):Int))::(.int .u64 ((((m_high + 1) % 18446744073709551616):Nat):Int))::(.pointer (some ⟨g331,0,none⟩))::(.slice A_m jn_m jc_m)::oCells m_os)::obj g331 81 [.int .u64 ((((m_high + 1) % 18446744073709551616):Nat):Int),.int .i64 ((m_self:Nat):Int),.int .u16 (((wth (est &&& (2 ^ m_n - 1)) ((m_self:Nat):Int)):Nat):Int),.int .u16 (((wth 0 ((m_self:Nat):Int)):Nat):Int),.slice (some ⟨g325,0,none⟩) 1 1,.bool false]::obj g63 39 [.int .u64 ((((m_high + 1) % 18446744073709551616):Nat):Int),.int .i64 ((m_self:Nat):Int),.int .u16 (((wth (est &&& (2 ^ m_n - 1)) ((m_self:Nat):Int)):Nat):Int)]::obj g10 37 (clState sx A6 n7 c8)::L):=hs344
 have hs349:=hs348.p2
 have hs350:=hs349.p2
 have okm351:MemB H m_n m_self m_cur (GViewID.mk ((m_high + 1) % 18446744073709551616) ((m_self:Nat):Int)) ((m_high + 1) % 18446744073709551616) A_m jn_m jc_m m_jl m_os:=⟨hn1_m,hn16_m,hsf_m,⟨ok_m.cur.n,ok_m.cur.p⟩,ok_m.set,⟨(Nat.mod_lt _ (by decide)),(show IB ((m_self:Nat):Int) from ⟨by omega,by omega⟩)⟩,(Nat.mod_lt _ (by decide)),ok_m.joined,ok_m.len,ok_m.oth⟩
 have okp352:PropOk H (GProp.mk (GView.mk (GViewID.mk ((m_high + 1) % 18446744073709551616) ((m_self:Nat):Int)) (wth (est &&& (2 ^ m_n - 1)) ((m_self:Nat):Int))) (wth 0 ((m_self:Nat):Int)) ([sx]:List GState) false) (.slice (some ⟨g325,0,none⟩) 1 1) [.int .u64 ((sx.V.N:Nat):Int),.int .i64 sx.V.P,.int .i64 sx.Floor,.slice A6 n7 c8]:=⟨⟨(Nat.mod_lt _ (by decide)),(show IB ((m_self:Nat):Int) from ⟨by omega,by omega⟩)⟩,(wth_lt hb15 ((m_self:Nat):Int)),(wth_lt (by decide) ((m_self:Nat):Int)),ok345,hk346⟩
 refine st_c cb27 .func (evs1 (.tmp rfl rfl)) (agree_S hs350 (p_m:=(GProp.mk (GView.mk (GViewID.mk ((m_high + 1) % 18446744073709551616) ((m_self:Nat):Int)) (wth (est &&& (2 ^ m_n - 1)) ((m_self:Nat):Int))) (wth 0 ((m_self:Nat):Int)) ([sx]:List GState) false)) (m_n:=m_n) (m_self:=m_self) (m_cur:=m_cur) (m_prom:=(GViewID.mk ((m_high + 1) % 18446744073709551616) ((m_self:Nat):Int))) (m_high:=((m_high + 1) % 18446744073709551616)) (m_jl:=m_jl) (m_os:=m_os) okm351 okp352 (by simp) (fun s hs => by rw [List.mem_singleton.1 hs]; exact hfl)) ?_
 rintro e w353 ⟨H355,iv357,cz360,jz361,A362,jn363,jc364,pz366,sv367,sc368,hle356,rfl,hin358,okm359,hkp365,hme369,hs354⟩
 refine ⟨_,rfl,?_⟩
 refine st (v:=iv357) (x_assign (.tmp rfl rfl)) ?_
 refine c_nil (n_then (c_seq (c_region (st (v:=iv357) (x_move (.tmp rfl rfl)) ?_))))
 rcases InstAt.cases hin358 with ⟨hX373,rfl⟩ | ⟨yi370,gi371,ci372,hX373,rfl,hrd374,hrp375⟩
 refine st (v:=.bool false) (x_neqP Tryd.underlying28 (.tmp rfl rfl) .const rfl) ?_
 refine c_nil (n_then (c_cond_f (t:=false) (.tmp rfl rfl) rfl ?_))
 refine c_skip (n_then (c_seq (c_region (st (v:=.pointer (some ⟨g_m,0,none⟩)) (x_move (.tmp rfl hρ51)) ?_))))
 have hs377:=hs354.p2
 have hs378:=hs377.p2
 have hs379:=hs378.p2
 have okm380:MemB H355 m_n m_self cz360 (GViewID.mk ((m_high + 1) % 18446744073709551616) ((m_self:Nat):Int)) ((m_high + 1) % 18446744073709551616) A362 jn363 jc364 jz361 m_os:=⟨hn1_m,hn16_m,hsf_m,⟨okm359.cur.n,okm359.cur.p⟩,okm359.set,⟨okm359.prom.n,okm359.prom.p⟩,okm359.high,okm359.joined,okm359.len,okm359.oth⟩
 have okp381:PropOk H355 pz366 sv367 sc368:=⟨⟨hkp365.id.n,hkp365.id.p⟩,hkp365.set,hkp365.who,hkp365.ok,hkp365.hk⟩
 refine st_c cb28 .func (evs1 (.tmp rfl rfl)) (again_S hs379 (p_m:=pz366) (m_n:=m_n) (m_self:=m_self) (m_cur:=cz360) (m_prom:=(GViewID.mk ((m_high + 1) % 18446744073709551616) ((m_self:Nat):Int))) (m_high:=((m_high + 1) % 18446744073709551616)) (m_jl:=jz361) (m_os:=m_os) okm380 okp381 (htab.mono hle356)) ?_
 rintro e w382 ⟨v384,cs387,rfl,ok385,hk388,hs383⟩
 refine ⟨_,rfl,?_⟩
 refine st (v:=v384) (x_assign (.tmp rfl rfl)) ?_
 refine st (v:=.pointer none) (x_assign .const) ?_
 refine c_nil (n_then (c_ret (leave_ret (res_two (v:=v384) (u:=.pointer none) rfl (.mk rfl rfl) (.mk rfl rfl)) ?_)))
 have hpq:(MB.tick (MB.mk m_n m_self m_cur m_prom m_high none m_jl m_os) est sx) = _:=tick_wait rfl hc56 hme369 hX373 rfl
 rw [hpq]
 have okm389:MemB H355 m_n m_self cz360 (GViewID.mk ((m_high + 1) % 18446744073709551616) ((m_self:Nat):Int)) ((m_high + 1) % 18446744073709551616) A362 jn363 jc364 jz361 m_os:=⟨hn1_m,hn16_m,hsf_m,⟨okm359.cur.n,okm359.cur.p⟩,okm359.set,⟨okm359.prom.n,okm359.prom.p⟩,okm359.high,okm359.joined,okm359.len,okm359.oth⟩
 have hs390:=hs383.p3
 have hs391:=hs390.p3
 have okp392:PropOk H355 pz366 sv367 sc368:=⟨⟨hkp365.id.n,hkp365.id.p⟩,hkp365.set,hkp365.who,hkp365.ok,hkp365.hk⟩
 have hs393:=hs391.p3
 have hs394:St H355 _ (row 53 16 v384 ((MB.again (MB.mk m_n m_self cz360 (GViewID.mk ((m_high + 1) % 18446744073709551616) ((m_self:Nat):Int)) ((m_high + 1) % 18446744073709551616) (some pz366) jz361 m_os)).length) cs387::obj g63 39 [.int .u64 ((((m_high + 1) % 18446744073709551616):Nat):Int),.int .i64 ((m_self:Nat):Int),.int .u16 (((wth (est &&& (2 ^ m_n - 1)) ((m_self:Nat):Int)):Nat):Int)]::obj g10 37 (clState sx A6 n7 c8)::memR 78 81 37 g_m g331 A362 jn363 jc364 sv367 sc368 (MB.mk m_n m_self cz360 (GViewID.mk ((m_high + 1) % 18446744073709551616) ((m_self:Nat):Int)) ((m_high + 1) % 18446744073709551616) (some pz366) jz361 m_os) ++ (L)):=St.foldS (TP:=81) (TS:=37) (gp:=g331) (sv:=sv367) (sc:=sc368) [row 53 16 v384 ((MB.again (MB.mk m_n m_self cz360 (GViewID.mk ((m_high + 1) % 18446744073709551616) ((m_self:Nat):Int)) ((m_high + 1) % 18446744073709551616) (some pz366) jz361 m_os)).length) cs387,obj g63 39 [.int .u64 ((((m_high + 1) % 18446744073709551616):Nat):Int),.int .i64 ((m_self:Nat):Int),.int .u16 (((wth (est &&& (2 ^ m_n - 1)) ((m_self:Nat):Int)):Nat):Int)],obj g10 37 (clState sx A6 n7 c8)] hs393
 exact ⟨H355,v384,cs387,(.pointer none),(MB.mk m_n m_self cz360 (GViewID.mk ((m_high + 1) % 18446744073709551616) ((m_self:Nat):Int)) ((m_high + 1) % 18446744073709551616) (some pz366) jz361 m_os),g331,A362,jn363,jc364,sv367,sc368,hle356,rfl,ok385,hk388,InstAt.none',(okm389.okS okp392),rfl,((hs394.p1).drop.p1).drop⟩
 obtain ⟨A399,n400,c401,rfl,b395,⟨b396,b397⟩,b398,hl402⟩:=hrp375
 have:=hl402.len; have:n400 * 48 ≤ 140737488351232:=hl402.bnd; have:=hl402.le
 have hat376:∀ {w:World} {L:List Res},St H355 w L → At w ⟨gi371,0,none⟩ [.int .u64 ((yi370.View.ID.N:Nat):Int),.int .i64 yi370.View.ID.P,.int .u16 ((yi370.View.Set:Nat):Int),.slice A399 n400 c401]:=fun h => hrd374.hat h
 refine st (v:=.bool true) (x_neqP Tryd.underlying28 (.tmp rfl rfl) .const rfl) ?_
 refine c_nil (n_then (c_cond_t (t:=true) (.tmp rfl rfl) rfl ?_))
 refine c_seq (c_region (st (v:=.pointer (some ⟨gi371,0,none⟩)) (x_move (.tmp rfl rfl)) ?_))
 refine st (v:=.slice none 0 0) (x_assign .const) ?_
 refine st (v:=.pointer (some ⟨gi371,0,none⟩)) (x_assign (.tmp rfl rfl)) ?_
 refine c_nil (n_then (c_ret (r_then (leave_ret (res_two (v:=.slice none 0 0) (u:=.pointer (some ⟨gi371,0,none⟩)) rfl (.mk rfl rfl) (.mk rfl rfl)) ?_))))
 have hpq:(MB.tick (MB.mk m_n m_self m_cur m_prom m_high none m_jl m_os) est sx) = _:=tick_done rfl hc56 hme369 hX373 rfl
 rw [hpq]
 have hs403:=hs354.krowNil 53 kOut
 have okm405:MemB H355 m_n m_self cz360 (GViewID.mk ((m_high + 1) % 18446744073709551616) ((m_self:Nat):Int)) ((m_high + 1) % 18446744073709551616) A362 jn363 jc364 jz361 m_os:=⟨hn1_m,hn16_m,hsf_m,⟨okm359.cur.n,okm359.cur.p⟩,okm359.set,⟨okm359.prom.n,okm359.prom.p⟩,okm359.high,okm359.joined,okm359.len,okm359.oth⟩
 have hs406:=hs403.p3
 have hs407:=hs406.p3
 have okp408:PropOk H355 pz366 sv367 sc368:=⟨⟨hkp365.id.n,hkp365.id.p⟩,hkp365.set,hkp365.who,hkp365.ok,hkp365.hk⟩
 have hs409:=hs407.p3
 have hs410:St H355 _ (row 53 16 (.slice none 0 0) (([]:List GOut).length) []::obj g63 39 [.int .u64 ((((m_high + 1) % 18446744073709551616):Nat):Int),.int .i64 ((m_self:Nat):Int),.int .u16 (((wth (est &&& (2 ^ m_n - 1)) ((m_self:Nat):Int)):Nat):Int)]::obj g10 37 (clState sx A6 n7 c8)::memR 78 81 37 g_m g331 A362 jn363 jc364 sv367 sc368 (MB.mk m_n m_self cz360 (GViewID.mk ((m_high + 1) % 18446744073709551616) ((m_self:Nat):Int)) ((m_high + 1) % 18446744073709551616) (some pz366) jz361 m_os) ++ (L)):=St.foldS (TP:=81) (TS:=37) (gp:=g331) (sv:=sv367) (sc:=sc368) [row 53 16 (.slice none 0 0) (([]:List GOut).length) [],obj g63 39 [.int .u64 ((((m_high + 1) % 18446744073709551616):Nat):Int),.int .i64 ((m_self:Nat):Int),.int .u16 (((wth (est &&& (2 ^ m_n - 1)) ((m_self:Nat):Int)):Nat):Int)],obj g10 37 (clState sx A6 n7 c8)] hs409
 exact ⟨H355,(.slice none 0 0),[],.pointer (some ⟨gi371,0,none⟩),(MB.mk m_n m_self cz360 (GViewID.mk ((m_high + 1) % 18446744073709551616) ((m_self:Nat):Int)) ((m_high + 1) % 18446744073709551616) (some pz366) jz361 m_os),g331,A362,jn363,jc364,sv367,sc368,hle356,rfl,(RowOk.knil kOut),(Kn.rows_nil _ _),(InstAt.some_of rfl hrd374 ⟨A399,n400,c401,rfl,b395,⟨b396,b397⟩,b398,hl402⟩),(okm405.okS okp408),rfl,((hs410.p1).drop.p1).drop⟩
 refine u_eff (k:=16) rfl ?_
 have hs411:=hs330.p2
 refine st_m0 (sto34 (cs':=((.int .i64 ((m_n:Nat):Int))::(.int .i64 ((m_self:Nat):Int))::(.int .u64 ((m_cur.ID.N:Nat):Int))::(.int .i64 m_cur.ID.P)::(.int .u16 ((m_cur.Set:Nat):Int))::(.int .u64 ((((m_high + 1) % 18446744073709551616):Nat):Int))::(.int .i64 ((m_self:Nat):Int))::(.int .u64 ((((m_high + 1) % 18446744073709551616):Nat):Int))::(.pointer none)::(.slice A_m jn_m jc_m)::oCells m_os)) (i:=0 + 5) hs411 (v:=.agg #[.int .u64 ((((m_high + 1) % 18446744073709551616):Nat):Int),.int .i64 ((m_self:Nat):Int)]) (.tmp rfl rfl) (.tmp rfl rfl) rfl (Nat.le_of_ble_eq_true rfl) (oneA rfl) rfl) ?_
 rintro w412 hs414
 refine u_new (S':=fun u => St H u (obj g_m 78 ((.int .i64 ((m_n:Nat):Int))::(.int .i64 ((m_self:Nat):Int))::(.int .u64 ((m_cur.ID.N:Nat):Int))::(.int .i64 m_cur.ID.P)::(.int .u16 ((m_cur.Set:Nat):Int))::(.int .u64 ((((m_high + 1) % 18446744073709551616):Nat):Int))::(.int .i64 ((m_self:Nat):Int))::(.int .u64 ((((m_high + 1) % 18446744073709551616):Nat):Int))::(.pointer none)::(.slice A_m jn_m jc_m)::oCells m_os)::obj g325 37 (clState sx A6 n7 c8)::obj g63 39 [.int .u64 ((((m_high + 1) % 18446744073709551616):Nat):Int),.int .i64 ((m_self:Nat):Int),.int .u16 (((wth (est &&& (2 ^ m_n - 1)) ((m_self:Nat):Int)):Nat):Int)]::obj g10 37 (clState sx A6 n7 c8)::L)) rfl (fun u hu => hu.drop.drop) hs414 ?_
 refine u_eff (k:=13) rfl ?_
 refine st_m (m_box (cs:=[.int .u64 ((((m_high + 1) % 18446744073709551616):Nat):Int),.int .i64 ((m_self:Nat):Int),.int .u16 (((wth (est &&& (2 ^ m_n - 1)) ((m_self:Nat):Int)):Nat):Int),.int .u16 (((wth 0 ((m_self:Nat):Int)):Nat):Int),.slice (some ⟨g325,0,none⟩) 1 1,.bool false]) hs414 (v:=.agg #[.int .u64 ((((m_high + 1) % 18446744073709551616):Nat):Int),.int .i64 ((m_self:Nat):Int),.int .u16 (((wth (est &&& (2 ^ m_n - 1)) ((m_self:Nat):Int)):Nat):Int),.int .u16 (((wth 0 ((m_self:Nat):Int)):Nat):Int),.slice (some ⟨g325,0,none⟩) 1 1,.bool false]) (.tmp rfl rfl) rfl) ?_
 rintro _ w416 ⟨g415,rfl,hs418⟩
 refine u_on (S':=fun u => St H u (obj g415 81 [.int .u64 ((((m_high + 1) % 18446744073709551616):Nat):Int),.int .i64 ((m_self:Nat):Int),.int .u16 (((wth (est &&& (2 ^ m_n - 1)) ((m_self:Nat):Int)):Nat):Int),.int .u16 (((wth 0 ((m_self:Nat):Int)):Nat):Int),.slice (some ⟨g325,0,none⟩) 1 1,.bool false]::obj g_m 78 ((.int .i64 ((m_n:Nat):Int))::(.int .i64 ((m_self:Nat):Int))::(.int .u64 ((m_cur.ID.N:Nat):Int))::(.int .i64 m_cur.ID.P)::(.int .u16 ((m_cur.Set:Nat):Int))::(.int .u64 ((((m_high + 1) % 18446744073709551616):Nat):Int))::(.int .i64 ((m_self:Nat):Int))::(.int .u64 ((((m_high + 1) % 18446744073709551616):Nat):Int))::(.pointer none)::(.slice A_m jn_m jc_m)::oCells m_os)::obj g325 37 (clState sx A6 n7 c8)::obj g63 39 [.int .u64 ((((m_high + 1) % 18446744073709551616):Nat):Int),.int .i64 ((m_self:Nat):Int),.int .u16 (((wth (est &&& (2 ^ m_n - 1)) ((m_self:Nat):Int)):Nat):Int)]::obj g10 37 (clState sx A6 n7 c8)::L)) (fun u hu => hu.drop) (fun u hu => hu.drop.drop.drop) hs418 ?_
 refine u_st (k:=17) (v:=.pointer (some ⟨g_m,0,none⟩)) rfl rfl (fun w hs => (x_nilCheck (.tmp rfl rfl))) ?_
 refine u_st (k:=18) (v:=.pointer (some ⟨g_m,0 + 8,none⟩)) rfl rfl (fun w hs => (fa78_5 (.tmp rfl rfl))) ?_
 refine u_eff (k:=19) rfl ?_
 have hs419:=hs418.p1
 refine st_m0 (sto75 (cs':=((.int .i64 ((m_n:Nat):Int))::(.int .i64 ((m_self:Nat):Int))::(.int .u64 ((m_cur.ID.N:Nat):Int))::(.int .i64 m_cur.ID.P)::(.int .u16 ((m_cur.Set:Nat):Int))::(.int .u64 ((((m_high + 1) % 18446744073709551616):Nat):Int))::(.int .i64 ((m_self:Nat):Int))::(.int .u64 ((((m_high + 1) % 18446744073709551616):Nat):Int))::(.pointer (some ⟨g415,0,none⟩))::(.slice A_m jn_m jc_m)::oCells m_os)) (i:=0 + 8) hs419 (v:=.pointer (some ⟨g415,0,none⟩)) (.tmp rfl rfl) (.tmp rfl rfl) rfl (Nat.le_of_ble_eq_true rfl) one1 rfl) ?_
 rintro w420 hs422
 refine u_new (S':=fun u => St H u (obj g_m 78 ((.int .i64 ((m_n:Nat):Int))::(.int .i64 ((m_self:Nat):Int))::(.int .u64 ((m_cur.ID.N:Nat):Int))::(.int .i64 m_cur.ID.P)::(.int .u16 ((m_cur.Set:Nat):Int))::(.int .u64 ((((m_high + 1) % 18446744073709551616):Nat):Int))::(.int .i64 ((m_self:Nat):Int))::(.int .u64 ((((m_high + 1) % 18446744073709551616):Nat):Int))::(.pointer (some ⟨g415,0,none⟩))::(.slice A_m jn_m jc_m)::oCells m_os)::obj g415 81 [.int .u64 ((((m_high + 1) % 18446744073709551616):Nat):Int),.int .i64 ((m_self:Nat):Int),.int .u16 (((wth (est &&& (2 ^ m_n - 1)) ((m_self:Nat):Int)):Nat):Int),.int .u16 (((wth 0 ((m_self:Nat):Int)):Nat):Int),.slice (some ⟨g325,0,none⟩) 1 1,.bool false]::obj g325 37 (clState sx A6 n7 c8)::obj g63 39 [.int .u64 ((((m_high + 1) % 18446744073709551616):Nat):Int),.int .i64 ((m_self:Nat):Int),.int .u16 (((wth (est &&& (2 ^ m_n - 1)) ((m_self:Nat):Int)):Nat):Int)]::obj g10 37 (clState sx A6 n7 c8)::L)) rfl (fun u hu => hu.drop.drop.drop) hs422 ?_
 refine u_nil ?_
 refine n_then (c_seq (c_region (st (v:=.pointer (some ⟨g_m,0,none⟩)) (x_move (.tmp rfl hρ51)) ?_)))
 have hs423:=hs422.p2
 have hr428:kState.rep H sx [.int .u64 ((sx.V.N:Nat):Int),.int .i64 sx.V.P,.int .i64 sx.Floor,.slice A6 n7 c8]:=⟨A6,n7,c8,rfl,b1,⟨b2,b3⟩,⟨b4,b5⟩,hl9⟩
 obtain ⟨hs425,ok426⟩:=hs423.rowOfObj (n:=1) (size:=kState.sz) rfl (by decide)
 have hk427:kState.toKn.rows H [sx] [.int .u64 ((sx.V.N:Nat):Int),.int .i64 sx.V.P,.int .i64 sx.Floor,.slice A6 n7 c8]:=Kn.rows_one hr428
 have:([sx]:List GState).length = 1:=rfl
 have hs429:St H _ (row 37 4 (.slice (some ⟨g325,0,none⟩) 1 1) (([sx]:List GState).length) [.int .u64 ((sx.V.N:Nat):Int),.int .i64 sx.V.P,.int .i64 sx.Floor,.slice A6 n7 c8]::obj g_m 78 ((.int .i64 ((m_n:Nat):Int))::(.int .i64 ((m_self:Nat):Int))::(.int .u64 ((m_cur.ID.N:Nat):Int))::(.int .i64 m_cur.ID.P)::(.int .u16 ((m_cur.Set:Nat):Int))::(.int .u64 ((((m_high + 1) % 18446744073709551616):Nat):Int))::(.int .i64 ((m_self:Nat):Int))::(.int .u64 ((((m_high + 1) % 18446744073709551616):Nat):Int))::(.pointer (some ⟨g415,0,none⟩))::(.slice A_m jn_m jc_m)::oCells m_os)::obj g415 81 [.int .u64 ((((m_high + 1) % 18446744073709551616):Nat):Int),.int .i64 ((m_self:Nat):Int),.int .u16 (((wth (est &&& (2 ^ m_n - 1)) ((m_self:Nat):Int)):Nat):Int),.int .u16 (((wth 0 ((m_self:Nat):Int)):Nat):Int),.slice (some ⟨g325,0,none⟩) 1 1,.bool false]::obj g63 39 [.int .u64 ((((m_high + 1) % 18446744073709551616):Nat):Int),.int .i64 ((m_self:Nat):Int),.int .u16 (((wth (est &&& (2 ^ m_n - 1)) ((m_self:Nat):Int)):Nat):Int)]::obj g10 37 (clState sx A6 n7 c8)::L):=hs425
 have hs430:=hs429.p2
 have hs431:=hs430.p2
 have okm432:MemB H m_n m_self m_cur (GViewID.mk ((m_high + 1) % 18446744073709551616) ((m_self:Nat):Int)) ((m_high + 1) % 18446744073709551616) A_m jn_m jc_m m_jl m_os:=⟨hn1_m,hn16_m,hsf_m,⟨ok_m.cur.n,ok_m.cur.p⟩,ok_m.set,⟨(Nat.mod_lt _ (by decide)),(show IB ((m_self:Nat):Int) from ⟨by omega,by omega⟩)⟩,(Nat.mod_lt _ (by decide)),ok_m.joined,ok_m.len,ok_m.oth⟩
 have okp433:PropOk H (GProp.mk (GView.mk (GViewID.mk ((m_high + 1) % 18446744073709551616) ((m_self:Nat):Int)) (wth (est &&& (2 ^ m_n - 1)) ((m_self:Nat):Int))) (wth 0 ((m_self:Nat):Int)) ([sx]:List GState) false) (.slice (some ⟨g325,0,none⟩) 1 1) [.int .u64 ((sx.V.N:Nat):Int),.int .i64 sx.V.P,.int .i64 sx.Floor,.slice A6 n7 c8]:=⟨⟨(Nat.mod_lt _ (by decide)),(show IB ((m_self:Nat):Int) from ⟨by omega,by omega⟩)⟩,(wth_lt hb15 ((m_self:Nat):Int)),(wth_lt (by decide) ((m_self:Nat):Int)),ok426,hk427⟩
 refine st_c cb27 .func (evs1 (.tmp rfl rfl)) (agree_S hs431 (p_m:=(GProp.mk (GView.mk (GViewID.mk ((m_high + 1) % 18446744073709551616) ((m_self:Nat):Int)) (wth (est &&& (2 ^ m_n - 1)) ((m_self:Nat):Int))) (wth 0 ((m_self:Nat):Int)) ([sx]:List GState) false)) (m_n:=m_n) (m_self:=m_self) (m_cur:=m_cur) (m_prom:=(GViewID.mk ((m_high + 1) % 18446744073709551616) ((m_self:Nat):Int))) (m_high:=((m_high + 1) % 18446744073709551616)) (m_jl:=m_jl) (m_os:=m_os) okm432 okp433 (by simp) (fun s hs => by rw [List.mem_singleton.1 hs]; exact hfl)) ?_
 rintro e w434 ⟨H436,iv438,cz441,jz442,A443,jn444,jc445,pz447,sv448,sc449,hle437,rfl,hin439,okm440,hkp446,hme450,hs435⟩
 refine ⟨_,rfl,?_⟩
 refine st (v:=iv438) (x_assign (.tmp rfl rfl)) ?_
 refine c_nil (n_then (c_seq (c_region (st (v:=iv438) (x_move (.tmp rfl rfl)) ?_))))
 rcases InstAt.cases hin439 with ⟨hX454,rfl⟩ | ⟨yi451,gi452,ci453,hX454,rfl,hrd455,hrp456⟩
 refine st (v:=.bool false) (x_neqP Tryd.underlying28 (.tmp rfl rfl) .const rfl) ?_
 refine c_nil (n_then (c_cond_f (t:=false) (.tmp rfl rfl) rfl ?_))
 refine c_skip (n_then (c_seq (c_region (st (v:=.pointer (some ⟨g_m,0,none⟩)) (x_move (.tmp rfl hρ51)) ?_))))
 have hs458:=hs435.p2
 have hs459:=hs458.p2
 have hs460:=hs459.p2
 have okm461:MemB H436 m_n m_self cz441 (GViewID.mk ((m_high + 1) % 18446744073709551616) ((m_self:Nat):Int)) ((m_high + 1) % 18446744073709551616) A443 jn444 jc445 jz442 m_os:=⟨hn1_m,hn16_m,hsf_m,⟨okm440.cur.n,okm440.cur.p⟩,okm440.set,⟨okm440.prom.n,okm440.prom.p⟩,okm440.high,okm440.joined,okm440.len,okm440.oth⟩
 have okp462:PropOk H436 pz447 sv448 sc449:=⟨⟨hkp446.id.n,hkp446.id.p⟩,hkp446.set,hkp446.who,hkp446.ok,hkp446.hk⟩
 refine st_c cb28 .func (evs1 (.tmp rfl rfl)) (again_S hs460 (p_m:=pz447) (m_n:=m_n) (m_self:=m_self) (m_cur:=cz441) (m_prom:=(GViewID.mk ((m_high + 1) % 18446744073709551616) ((m_self:Nat):Int))) (m_high:=((m_high + 1) % 18446744073709551616)) (m_jl:=jz442) (m_os:=m_os) okm461 okp462 (htab.mono hle437)) ?_
 rintro e w463 ⟨v465,cs468,rfl,ok466,hk469,hs464⟩
 refine ⟨_,rfl,?_⟩
 refine st (v:=v465) (x_assign (.tmp rfl rfl)) ?_
 refine st (v:=.pointer none) (x_assign .const) ?_
 refine c_nil (n_then (c_ret (leave_ret (res_two (v:=v465) (u:=.pointer none) rfl (.mk rfl rfl) (.mk rfl rfl)) ?_)))
 have hpq:(MB.tick (MB.mk m_n m_self m_cur m_prom m_high none m_jl m_os) est sx) = _:=tick_wait rfl hc56 hme450 hX454 rfl
 rw [hpq]
 have okm470:MemB H436 m_n m_self cz441 (GViewID.mk ((m_high + 1) % 18446744073709551616) ((m_self:Nat):Int)) ((m_high + 1) % 18446744073709551616) A443 jn444 jc445 jz442 m_os:=⟨hn1_m,hn16_m,hsf_m,⟨okm440.cur.n,okm440.cur.p⟩,okm440.set,⟨okm440.prom.n,okm440.prom.p⟩,okm440.high,okm440.joined,okm440.len,okm440.oth⟩
 have hs471:=hs464.p3
 have hs472:=hs471.p3
 have okp473:PropOk H436 pz447 sv448 sc449:=⟨⟨hkp446.id.n,hkp446.id.p⟩,hkp446.set,hkp446.who,hkp446.ok,hkp446.hk⟩
 have hs474:=hs472.p3
 have hs475:St H436 _ (row 53 16 v465 ((MB.again (MB.mk m_n m_self cz441 (GViewID.mk ((m_high + 1) % 18446744073709551616) ((m_self:Nat):Int)) ((m_high + 1) % 18446744073709551616) (some pz447) jz442 m_os)).length) cs468::obj g63 39 [.int .u64 ((((m_high + 1) % 18446744073709551616):Nat):Int),.int .i64 ((m_self:Nat):Int),.int .u16 (((wth (est &&& (2 ^ m_n - 1)) ((m_self:Nat):Int)):Nat):Int)]::obj g10 37 (clState sx A6 n7 c8)::memR 78 81 37 g_m g415 A443 jn444 jc445 sv448 sc449 (MB.mk m_n m_self cz441 (GViewID.mk ((m_high + 1) % 18446744073709551616) ((m_self:Nat):Int)) ((m_high + 1) % 18446744073709551616) (some pz447) jz442 m_os) ++ (L)):=St.foldS (TP:=81) (TS:=37) (gp:=g415) (sv:=sv448) (sc:=sc449) [row 53 16 v465 ((MB.again (MB.mk m_n m_self cz441 (GViewID.mk ((m_high + 1) % 18446744073709551616) ((m_self:Nat):Int)) ((m_high + 1) % 18446744073709551616) (some pz447) jz442 m_os)).length) cs468,obj g63 39 [.int .u64 ((((m_high + 1) % 18446744073709551616):Nat):Int),.int .i64 ((m_self:Nat):Int),.int .u16 (((wth (est &&& (2 ^ m_n - 1)) ((m_self:Nat):Int)):Nat):Int)],obj g10 37 (clState sx A6 n7 c8)] hs474
 exact ⟨H436,v465,cs468,(.pointer none),(MB.mk m_n m_self cz441 (GViewID.mk ((m_high + 1) % 18446744073709551616) ((m_self:Nat):Int)) ((m_high + 1) % 18446744073709551616) (some pz447) jz442 m_os),g415,A443,jn444,jc445,sv448,sc449,hle437,rfl,ok466,hk469,InstAt.none',(okm470.okS okp473),rfl,((hs475.p1).drop.p1).drop⟩
 obtain ⟨A480,n481,c482,rfl,b476,⟨b477,b478⟩,b479,hl483⟩:=hrp456
 have:=hl483.len; have:n481 * 48 ≤ 140737488351232:=hl483.bnd; have:=hl483.le
 have hat457:∀ {w:World} {L:List Res},St H436 w L → At w ⟨gi452,0,none⟩ [.int .u64 ((yi451.View.ID.N:Nat):Int),.int .i64 yi451.View.ID.P,.int .u16 ((yi451.View.Set:Nat):Int),.slice A480 n481 c482]:=fun h => hrd455.hat h
 refine st (v:=.bool true) (x_neqP Tryd.underlying28 (.tmp rfl rfl) .const rfl) ?_
 refine c_nil (n_then (c_cond_t (t:=true) (.tmp rfl rfl) rfl ?_))
 refine c_seq (c_region (st (v:=.pointer (some ⟨gi452,0,none⟩)) (x_move (.tmp rfl rfl)) ?_))
 refine st (v:=.slice none 0 0) (x_assign .const) ?_
 refine st (v:=.pointer (some ⟨gi452,0,none⟩)) (x_assign (.tmp rfl rfl)) ?_
 refine c_nil (n_then (c_ret (r_then (leave_ret (res_two (v:=.slice none 0 0) (u:=.pointer (some ⟨gi452,0,none⟩)) rfl (.mk rfl rfl) (.mk rfl rfl)) ?_))))
 have hpq:(MB.tick (MB.mk m_n m_self m_cur m_prom m_high none m_jl m_os) est sx) = _:=tick_done rfl hc56 hme450 hX454 rfl
 rw [hpq]
 have hs484:=hs435.krowNil 53 kOut
 have okm486:MemB H436 m_n m_self cz441 (GViewID.mk ((m_high + 1) % 18446744073709551616) ((m_self:Nat):Int)) ((m_high + 1) % 18446744073709551616) A443 jn444 jc445 jz442 m_os:=⟨hn1_m,hn16_m,hsf_m,⟨okm440.cur.n,okm440.cur.p⟩,okm440.set,⟨okm440.prom.n,okm440.prom.p⟩,okm440.high,okm440.joined,okm440.len,okm440.oth⟩
 have hs487:=hs484.p3
 have hs488:=hs487.p3
 have okp489:PropOk H436 pz447 sv448 sc449:=⟨⟨hkp446.id.n,hkp446.id.p⟩,hkp446.set,hkp446.who,hkp446.ok,hkp446.hk⟩
 have hs490:=hs488.p3
 have hs491:St H436 _ (row 53 16 (.slice none 0 0) (([]:List GOut).length) []::obj g63 39 [.int .u64 ((((m_high + 1) % 18446744073709551616):Nat):Int),.int .i64 ((m_self:Nat):Int),.int .u16 (((wth (est &&& (2 ^ m_n - 1)) ((m_self:Nat):Int)):Nat):Int)]::obj g10 37 (clState sx A6 n7 c8)::memR 78 81 37 g_m g415 A443 jn444 jc445 sv448 sc449 (MB.mk m_n m_self cz441 (GViewID.mk ((m_high + 1) % 18446744073709551616) ((m_self:Nat):Int)) ((m_high + 1) % 18446744073709551616) (some pz447) jz442 m_os) ++ (L)):=St.foldS (TP:=81) (TS:=37) (gp:=g415) (sv:=sv448) (sc:=sc449) [row 53 16 (.slice none 0 0) (([]:List GOut).length) [],obj g63 39 [.int .u64 ((((m_high + 1) % 18446744073709551616):Nat):Int),.int .i64 ((m_self:Nat):Int),.int .u16 (((wth (est &&& (2 ^ m_n - 1)) ((m_self:Nat):Int)):Nat):Int)],obj g10 37 (clState sx A6 n7 c8)] hs490
 exact ⟨H436,(.slice none 0 0),[],.pointer (some ⟨gi452,0,none⟩),(MB.mk m_n m_self cz441 (GViewID.mk ((m_high + 1) % 18446744073709551616) ((m_self:Nat):Int)) ((m_high + 1) % 18446744073709551616) (some pz447) jz442 m_os),g415,A443,jn444,jc445,sv448,sc449,hle437,rfl,(RowOk.knil kOut),(Kn.rows_nil _ _),(InstAt.some_of rfl hrd455 ⟨A480,n481,c482,rfl,b476,⟨b477,b478⟩,b479,hl483⟩),(okm486.okS okp489),rfl,((hs491.p1).drop.p1).drop⟩
 have hp56:¬ (((((least (wth (est &&& (2 ^ m_n - 1)) ((m_self:Nat):Int))):Int) = ((m_self:Nat):Int))∧((MB.need (MB.mk m_n m_self m_cur m_prom m_high none m_jl m_os) (wth (est &&& (2 ^ m_n - 1)) ((m_self:Nat):Int))) = true))∧(¬ ((MB.under (MB.mk m_n m_self m_cur m_prom m_high none m_jl m_os) (wth (est &&& (2 ^ m_n - 1)) ((m_self:Nat):Int))) = true))):=J_no (J_and (J_and decide_eq_true_iff Iff.rfl) (J_not Iff.rfl)) hc56
 refine c_cond_f (t:=false) (.tmp rfl (hρ50.trans (cVb hc56))) rfl ?_
 refine c_skip (n_then (c_seq (c_region (st (v:=.pointer (some ⟨g_m,0,none⟩)) (x_move (.tmp rfl hρ51)) ?_))))
 have hs492:=hs55.p1
 have okm493:MemB H m_n m_self m_cur m_prom m_high A_m jn_m jc_m m_jl m_os:=⟨hn1_m,hn16_m,hsf_m,⟨ok_m.cur.n,ok_m.cur.p⟩,ok_m.set,⟨ok_m.prom.n,ok_m.prom.p⟩,ok_m.high,ok_m.joined,ok_m.len,ok_m.oth⟩
 refine st_c cb28 .func (evs1 (.tmp rfl rfl)) (again_N hs492 (m_n:=m_n) (m_self:=m_self) (m_cur:=m_cur) (m_prom:=m_prom) (m_high:=m_high) (m_jl:=m_jl) (m_os:=m_os) okm493 ) ?_
 rintro e w494 ⟨v496,cs499,rfl,ok497,hk500,hs495⟩
 refine ⟨_,rfl,?_⟩
 refine st (v:=v496) (x_assign (.tmp rfl rfl)) ?_
 refine st (v:=.pointer none) (x_assign .const) ?_
 refine c_nil (n_then (c_ret (leave_ret (res_two (v:=v496) (u:=.pointer none) rfl (.mk rfl rfl) (.mk rfl rfl)) ?_)))
 have hpq:(MB.tick (MB.mk m_n m_self m_cur m_prom m_high none m_jl m_os) est sx) = _:=tick_stay rfl hc56
 rw [hpq]
 have okm501:MemB H m_n m_self m_cur m_prom m_high A_m jn_m jc_m m_jl m_os:=⟨hn1_m,hn16_m,hsf_m,⟨ok_m.cur.n,ok_m.cur.p⟩,ok_m.set,⟨ok_m.prom.n,ok_m.prom.p⟩,ok_m.high,ok_m.joined,ok_m.len,ok_m.oth⟩
 have hs502:=hs495.p1
 have hs503:St H _ (row 53 16 v496 ((MB.again (MB.mk m_n m_self m_cur m_prom m_high none m_jl m_os)).length) cs499::obj g10 37 (clState sx A6 n7 c8)::memR 78 81 37 g_m 0 A_m jn_m jc_m (.slice none 0 0) [] (MB.mk m_n m_self m_cur m_prom m_high none m_jl m_os) ++ (L)):=St.foldN (TP:=81) (TS:=37) (gp:=0) (sv:=(.slice none 0 0)) (sc:=[]) [row 53 16 v496 ((MB.again (MB.mk m_n m_self m_cur m_prom m_high none m_jl m_os)).length) cs499,obj g10 37 (clState sx A6 n7 c8)] hs502
 exact ⟨H,v496,cs499,(.pointer none),(MB.mk m_n m_self m_cur m_prom m_high none m_jl m_os),0,A_m,jn_m,jc_m,(.slice none 0 0),[],(Hp.le.refl _),rfl,ok497,hk500,InstAt.none',okm501.okN,rfl,(hs503.p1).drop⟩
end Go.Proofs.YtcccaihjgoaehaaDoor
