/- Steps of the proofs over the functions of this seat, printed by a program (gen.py) and checked by Lean. -/
import Derived.Test.YtcccaihjgoaehaaDoorW01
import Derived.Test.YtcccaihjgoaehaaDoorW00
import Derived.Test.YtcccaihjgoaehaaDoorW08
set_option linter.unusedVariables false
set_option linter.unusedSimpArgs false
namespace Go.Proofs.YtcccaihjgoaehaaDoor
open Go Go.FM Go.Proofs
attribute [local irreducible] wpList wpQuiet wpS Code.wp Calls
set_option maxHeartbeats 8000000 in
theorem in_N {H:Hp} {w:World} {L:List Res} {g_m m_n m_self m_high:Nat} {m_cur:GView} {m_prom:GViewID} {m_jl:List GState} {m_os:List (GViewID × GViewID)} {A_m:Option Addr} {jn_m jc_m:Nat} (hs:St H w (obj g_m 78 ((.int .i64 ((m_n:Nat):Int))::(.int .i64 ((m_self:Nat):Int))::(.int .u64 ((m_cur.ID.N:Nat):Int))::(.int .i64 m_cur.ID.P)::(.int .u16 ((m_cur.Set:Nat):Int))::(.int .u64 ((m_prom.N:Nat):Int))::(.int .i64 m_prom.P)::(.int .u64 ((m_high:Nat):Int))::(.pointer none)::(.slice A_m jn_m jc_m)::oCells m_os)::L)) (ok_m:MemB H m_n m_self m_cur m_prom m_high A_m jn_m jc_m m_jl m_os) (f:GFrame) {k_f:List Value} (h_f:kFrame.rep H f k_f) (sx:GState) {k_sx:List Value} (h_sx:kState.rep H sx k_sx) (htab:Tab H):Calls Tryd.prog 17 #[.pointer (some ⟨g_m,0,none⟩),.agg k_f.toArray,.agg k_sx.toArray] w (fun e w' => ∃ (H':Hp) (v0:Value) (cs0:List Value) (iv1:Value) (m':MB) (gp_m':Nat) (A_m':Option Addr) (jn_m' jc_m':Nat) (sv_m':Value) (sc_m':List Value),H.le H'∧e = .returned (.tuple #[v0,iv1,.int .i64 ((MB.inn (MB.mk m_n m_self m_cur m_prom m_high none m_jl m_os) f sx).2.2.2)])∧RowOk kOut.sz v0 ((MB.inn (MB.mk m_n m_self m_cur m_prom m_high none m_jl m_os) f sx).2.1).length cs0∧kOut.toKn.rows H' ((MB.inn (MB.mk m_n m_self m_cur m_prom m_high none m_jl m_os) f sx).2.1) cs0∧InstAt H' ((MB.inn (MB.mk m_n m_self m_cur m_prom m_high none m_jl m_os) f sx).2.2.1) iv1∧MemOk H' m' A_m' jn_m' jc_m' sv_m' sc_m'∧m' = (MB.inn (MB.mk m_n m_self m_cur m_prom m_high none m_jl m_os) f sx).1∧St H' w' (row 53 kOut.sz v0 ((MB.inn (MB.mk m_n m_self m_cur m_prom m_high none m_jl m_os) f sx).2.1).length cs0::memR 78 81 37 g_m gp_m' A_m' jn_m' jc_m' sv_m' sc_m' m' ++ (L))):=by
 have hn1_m:1 ≤ m_n:=ok_m.n1
 have hn16_m:m_n ≤ 16:=ok_m.n16
 have hsf_m:m_self < m_n:=ok_m.self
 have hol_m:m_os.length = 16:=ok_m.len
 have hhi_m:m_high < 18446744073709551616:=ok_m.high
 obtain ⟨A14,n15,c16,A19,n20,c21,A23,n24,c25,rfl,b1,⟨b2,b3⟩,b4,⟨b5,b6⟩,b7,b8,⟨b9,b10⟩,b11,⟨b12,b13⟩,hl17,b18,hl22,hl26,b27,b28⟩:=h_f
 have:=hl17.len; have:n15 * 48 ≤ 140737488351232:=hl17.bnd; have:=hl17.le
 have:=hl22.len; have:n20 * 24 ≤ 140737488351232:=hl22.bnd; have:=hl22.le
 have:=hl26.len; have:n24 * 32 ≤ 140737488351232:=hl26.bnd; have:=hl26.le
 obtain ⟨A34,n35,c36,rfl,b29,⟨b30,b31⟩,⟨b32,b33⟩,hl37⟩:=h_sx
 have:=hl37.len; have:n35 * 32 ≤ 140737488351232:=hl37.bnd; have:=hl37.le
 refine enter (args:=[.pointer (some ⟨g_m,0,none⟩),.agg #[.int .u8 ((f.Kind:Nat):Int),.int .i64 f.From,.int .u64 ((f.ID.N:Nat):Int),.int .i64 f.ID.P,.int .u16 ((f.Set:Nat):Int),.int .u64 ((f.Cur.N:Nat):Int),.int .i64 f.Cur.P,.int .u64 ((f.Prom.N:Nat):Int),.int .i64 f.Prom.P,.slice A14 n15 c16,.int .u64 ((f.Base:Nat):Int),.slice A19 n20 c21,.slice A23 n24 c25,.int .u64 ((f.Ack:Nat):Int),.int .u64 ((f.Safe:Nat):Int)],.agg #[.int .u64 ((sx.V.N:Nat):Int),.int .i64 sx.V.P,.int .i64 sx.Floor,.slice A34 n35 c36]]) (N:=167) Tryd.func17 rfl rfl rfl ?_
 refine c_seq (c_region (st_m (m_box (cs:=[.int .u8 ((f.Kind:Nat):Int),.int .i64 f.From,.int .u64 ((f.ID.N:Nat):Int),.int .i64 f.ID.P,.int .u16 ((f.Set:Nat):Int),.int .u64 ((f.Cur.N:Nat):Int),.int .i64 f.Cur.P,.int .u64 ((f.Prom.N:Nat):Int),.int .i64 f.Prom.P,.slice A14 n15 c16,.int .u64 ((f.Base:Nat):Int),.slice A19 n20 c21,.slice A23 n24 c25,.int .u64 ((f.Ack:Nat):Int),.int .u64 ((f.Safe:Nat):Int)]) hs (v:=.agg #[.int .u8 ((f.Kind:Nat):Int),.int .i64 f.From,.int .u64 ((f.ID.N:Nat):Int),.int .i64 f.ID.P,.int .u16 ((f.Set:Nat):Int),.int .u64 ((f.Cur.N:Nat):Int),.int .i64 f.Cur.P,.int .u64 ((f.Prom.N:Nat):Int),.int .i64 f.Prom.P,.slice A14 n15 c16,.int .u64 ((f.Base:Nat):Int),.slice A19 n20 c21,.slice A23 n24 c25,.int .u64 ((f.Ack:Nat):Int),.int .u64 ((f.Safe:Nat):Int)]) (.tmp rfl rfl) rfl) ?_))
 rintro _ w39 ⟨g38,rfl,hs41⟩
 refine st_m (m_box (cs:=[.int .u64 ((sx.V.N:Nat):Int),.int .i64 sx.V.P,.int .i64 sx.Floor,.slice A34 n35 c36]) hs41 (v:=.agg #[.int .u64 ((sx.V.N:Nat):Int),.int .i64 sx.V.P,.int .i64 sx.Floor,.slice A34 n35 c36]) (.tmp rfl rfl) rfl) ?_
 rintro _ w43 ⟨g42,rfl,hs45⟩
 refine st (v:=.slice none 0 0) (x_assign .const) ?_
 refine st (v:=.pointer none) (x_assign .const) ?_
 refine st (v:=.int .i64 0) (x_assign .const) ?_
 refine c_nil (n_then (c_seq (c_block (c_seq (c_region (st (v:=.pointer (some ⟨g_m,0,none⟩)) (x_move (.tmp rfl rfl)) ?_))))))
 refine st (v:=.bool false) (x_eqlP Tryd.underlying23 (.tmp rfl rfl) .const rfl) ?_
 refine st (v:=.bool false) (x_assign (.tmp rfl rfl)) ?_
 refine c_nil (n_then (c_cond_f (t:=false) (.tmp rfl rfl) rfl ?_))
 refine c_seq (q_region mixed hs45 (by kernel_rfl) ?_)
 refine q_st (v:=.pointer (some ⟨g38,0 + 1,none⟩)) (fun w hs => (fa51_1 (.tmp rfl rfl))) ?_
 refine q_st (v:=.int .i64 f.From) (fun w hs => (ld3 (.tmp rfl rfl) (hs.cell 1 rfl (0 + 1) rfl))) ?_
 refine q_st (v:=.bool (decide ((f.From:Int) < 0))) (fun w hs => (x_lss (k:=.i64) (a:=f.From) (b:=0) (.tmp rfl rfl) .const)) ?_
 refine q_st (v:=.bool (decide ((f.From:Int) < 0))) (fun w hs => (x_move (.tmp rfl rfl))) ?_
 refine jq 8 (fun ρ => ρ 25 = .bool ((decide ((f.From:Int) < 0)) || (decide ((((m_n:Nat):Int):Int) ≤ f.From)))∧ρ 0 = .pointer (some ⟨g_m,0,none⟩)∧ρ 4 = .pointer (some ⟨g38,0,none⟩)∧ρ 5 = .pointer (some ⟨g42,0,none⟩)∧True) ?_ ?_
 rcases Bool.eq_false_or_eq_true (decide ((f.From:Int) < 0)) with hc46 | hc46
 have hp46:(f.From:Int) < 0:=of_decide_eq_true hc46
 refine q_no (yk 17 true rfl rfl hc46) rfl ?_
 refine q_no (yk 17 true rfl rfl hc46) rfl ?_
 refine q_no (yk 17 true rfl rfl hc46) rfl ?_
 refine q_no (yk 17 true rfl rfl hc46) rfl ?_
 refine q_no (yk 17 true rfl rfl hc46) rfl ?_
 refine q_no (yk 17 true rfl rfl hc46) rfl ?_
 refine q_no (yk 17 true rfl rfl hc46) rfl ?_
 refine q_st (v:=.bool true) (fun w hs => (x_pick_t (.tmp rfl (cVb hc46)) .const)) ?_
 exact jq_end ⟨(cVb (jor_t hc46)),rfl,rfl,rfl,True.intro⟩
 have hp46:¬ ((f.From:Int) < 0):=of_decide_eq_false hc46
 refine q_yes (yk 17 false rfl rfl hc46) ?_
 refine q_st (v:=.pointer (some ⟨g38,0 + 1,none⟩)) (fun w hs => (fa51_1 (.tmp rfl rfl))) ?_
 refine q_yes (yk 17 false rfl rfl hc46) ?_
 refine q_st (v:=.int .i64 f.From) (fun w hs => (ld3 (.tmp rfl rfl) (hs.cell 1 rfl (0 + 1) rfl))) ?_
 refine q_yes (yk 17 false rfl rfl hc46) ?_
 refine q_st (v:=.pointer (some ⟨g_m,0,none⟩)) (fun w hs => (x_move (.tmp rfl rfl))) ?_
 refine q_yes (yk 17 false rfl rfl hc46) ?_
 refine q_st (v:=.pointer (some ⟨g_m,0,none⟩)) (fun w hs => (x_nilCheck (.tmp rfl rfl))) ?_
 refine q_yes (yk 17 false rfl rfl hc46) ?_
 refine q_st (v:=.pointer (some ⟨g_m,0 + 0,none⟩)) (fun w hs => (fa78_0 (.tmp rfl rfl))) ?_
 refine q_yes (yk 17 false rfl rfl hc46) ?_
 refine q_st (v:=.int .i64 ((m_n:Nat):Int)) (fun w hs => (ld3 (.tmp rfl rfl) (hs.cell 2 rfl (0 + 0) rfl))) ?_
 refine q_yes (yk 17 false rfl rfl hc46) ?_
 refine q_st (v:=.bool (decide ((((m_n:Nat):Int):Int) ≤ f.From))) (fun w hs => (x_geq (k:=.i64) (a:=f.From) (b:=((m_n:Nat):Int)) (.tmp rfl rfl) (.tmp rfl rfl))) ?_
 refine q_st (v:=.bool (decide ((((m_n:Nat):Int):Int) ≤ f.From))) (fun w hs => (x_pick_f (.tmp rfl (cVb hc46)) (.tmp rfl rfl))) ?_
 exact jq_end ⟨(cVb (jor_f hc46)),rfl,rfl,rfl,True.intro⟩
 rintro ρ ⟨hρ47,hρ48,hρ49,hρ50,_⟩
 refine q_st (v:=.bool ((decide ((f.From:Int) < 0)) || (decide ((((m_n:Nat):Int):Int) ≤ f.From)))) (fun w hs => (x_move (.tmp rfl hρ47))) ?_
 refine jq 8 (fun ρ => ρ 34 = .bool (((decide ((f.From:Int) < 0)) || (decide ((((m_n:Nat):Int):Int) ≤ f.From))) || (decide ((f.From:Int) = ((m_self:Nat):Int))))∧ρ 0 = .pointer (some ⟨g_m,0,none⟩)∧ρ 4 = .pointer (some ⟨g38,0,none⟩)∧ρ 5 = .pointer (some ⟨g42,0,none⟩)∧True) ?_ ?_
 rcases Bool.eq_false_or_eq_true ((decide ((f.From:Int) < 0)) || (decide ((((m_n:Nat):Int):Int) ≤ f.From))) with hc52 | hc52
 have hp52:((f.From:Int) < 0) ∨ ((((m_n:Nat):Int):Int) ≤ f.From):=((J_or decide_eq_true_iff decide_eq_true_iff)).1 hc52
 refine q_no (yk 26 true rfl rfl hc52) rfl ?_
 refine q_no (yk 26 true rfl rfl hc52) rfl ?_
 refine q_no (yk 26 true rfl rfl hc52) rfl ?_
 refine q_no (yk 26 true rfl rfl hc52) rfl ?_
 refine q_no (yk 26 true rfl rfl hc52) rfl ?_
 refine q_no (yk 26 true rfl rfl hc52) rfl ?_
 refine q_no (yk 26 true rfl rfl hc52) rfl ?_
 refine q_st (v:=.bool true) (fun w hs => (x_pick_t (.tmp rfl (cVb hc52)) .const)) ?_
 exact jq_end ⟨(cVb (jor_t hc52)),hρ48,hρ49,hρ50,True.intro⟩
 have hp52:¬ (((f.From:Int) < 0) ∨ ((((m_n:Nat):Int):Int) ≤ f.From)):=J_no (J_or decide_eq_true_iff decide_eq_true_iff) hc52
 refine q_yes (yk 26 false rfl rfl hc52) ?_
 refine q_st (v:=.pointer (some ⟨g38,0 + 1,none⟩)) (fun w hs => (fa51_1 (.tmp rfl hρ49))) ?_
 refine q_yes (yk 26 false rfl rfl hc52) ?_
 refine q_st (v:=.int .i64 f.From) (fun w hs => (ld3 (.tmp rfl rfl) (hs.cell 1 rfl (0 + 1) rfl))) ?_
 refine q_yes (yk 26 false rfl rfl hc52) ?_
 refine q_st (v:=.pointer (some ⟨g_m,0,none⟩)) (fun w hs => (x_move (.tmp rfl hρ48))) ?_
 refine q_yes (yk 26 false rfl rfl hc52) ?_
 refine q_st (v:=.pointer (some ⟨g_m,0,none⟩)) (fun w hs => (x_nilCheck (.tmp rfl rfl))) ?_
 refine q_yes (yk 26 false rfl rfl hc52) ?_
 refine q_st (v:=.pointer (some ⟨g_m,0 + 1,none⟩)) (fun w hs => (fa78_1 (.tmp rfl rfl))) ?_
 refine q_yes (yk 26 false rfl rfl hc52) ?_
 refine q_st (v:=.int .i64 ((m_self:Nat):Int)) (fun w hs => (ld3 (.tmp rfl rfl) (hs.cell 2 rfl (0 + 1) rfl))) ?_
 refine q_yes (yk 26 false rfl rfl hc52) ?_
 refine q_st (v:=.bool (decide ((f.From:Int) = ((m_self:Nat):Int)))) (fun w hs => (x_eql (k:=.i64) (a:=f.From) (b:=((m_self:Nat):Int)) (.tmp rfl rfl) (.tmp rfl rfl))) ?_
 refine q_st (v:=.bool (decide ((f.From:Int) = ((m_self:Nat):Int)))) (fun w hs => (x_pick_f (.tmp rfl (cVb hc52)) (.tmp rfl rfl))) ?_
 exact jq_end ⟨(cVb (jor_f hc52)),hρ48,hρ49,hρ50,True.intro⟩
 rintro ρ ⟨hρ53,hρ54,hρ55,hρ56,_⟩
 refine q_st (v:=.bool (((decide ((f.From:Int) < 0)) || (decide ((((m_n:Nat):Int):Int) ≤ f.From))) || (decide ((f.From:Int) = ((m_self:Nat):Int))))) (fun w hs => (x_assign (.tmp rfl hρ53))) ?_
 refine q_nil ?_
 intro w hs58
 refine n_then ?_
 rcases Bool.eq_false_or_eq_true (((decide ((f.From:Int) < 0)) || (decide ((((m_n:Nat):Int):Int) ≤ f.From))) || (decide ((f.From:Int) = ((m_self:Nat):Int)))) with hc59 | hc59
 have hp59:(((f.From:Int) < 0) ∨ ((((m_n:Nat):Int):Int) ≤ f.From)) ∨ ((f.From:Int) = ((m_self:Nat):Int)):=((J_or (J_or decide_eq_true_iff decide_eq_true_iff) decide_eq_true_iff)).1 hc59
 refine c_cond_t (t:=true) (.tmp rfl (cVb hc59)) rfl ?_
 refine c_seq (c_region (st (v:=.slice none 0 0) (x_assign .const) ?_))
 refine st (v:=.pointer none) (x_assign .const) ?_
 refine st (v:=.int .i64 1) (x_assign .const) ?_
 refine c_nil (n_then (c_ret (r_block (r_then (leave_ret (res_three (v:=.slice none 0 0) (u:=.pointer none) (x:=.int .i64 1) rfl (.mk rfl rfl) (.mk rfl rfl) (.mk rfl rfl)) ?_)))))
 have hpq:(MB.inn (MB.mk m_n m_self m_cur m_prom m_high none m_jl m_os) f sx) = _:=inn_arg hc59
 rw [hpq]
 have hs60:=hs58.krowNil 53 kOut
 have okm62:MemB H m_n m_self m_cur m_prom m_high A_m jn_m jc_m m_jl m_os:=⟨hn1_m,hn16_m,hsf_m,⟨ok_m.cur.n,ok_m.cur.p⟩,ok_m.set,⟨ok_m.prom.n,ok_m.prom.p⟩,ok_m.high,ok_m.joined,ok_m.len,ok_m.oth⟩
 have hs63:=hs60.p3
 have hs64:St H _ (row 53 16 (.slice none 0 0) (([]:List GOut).length) []::obj g42 37 (clState sx A34 n35 c36)::obj g38 51 (clFrame f A14 n15 c16 A19 n20 c21 A23 n24 c25)::memR 78 81 37 g_m 0 A_m jn_m jc_m (.slice none 0 0) [] (MB.mk m_n m_self m_cur m_prom m_high none m_jl m_os) ++ (L)):=St.foldN (TP:=81) (TS:=37) (gp:=0) (sv:=(.slice none 0 0)) (sc:=[]) [row 53 16 (.slice none 0 0) (([]:List GOut).length) [],obj g42 37 (clState sx A34 n35 c36),obj g38 51 (clFrame f A14 n15 c16 A19 n20 c21 A23 n24 c25)] hs63
 exact ⟨H,(.slice none 0 0),[],(.pointer none),(MB.mk m_n m_self m_cur m_prom m_high none m_jl m_os),0,A_m,jn_m,jc_m,(.slice none 0 0),[],(Hp.le.refl _),rfl,(RowOk.knil kOut),(Kn.rows_nil _ _),InstAt.none',okm62.okN,rfl,((hs64.p1).drop.p1).drop⟩
 have hp59:¬ ((((f.From:Int) < 0) ∨ ((((m_n:Nat):Int):Int) ≤ f.From)) ∨ ((f.From:Int) = ((m_self:Nat):Int))):=J_no (J_or (J_or decide_eq_true_iff decide_eq_true_iff) decide_eq_true_iff) hc59
 refine c_cond_f (t:=false) (.tmp rfl (cVb hc59)) rfl ?_
 refine c_skip (n_block (n_then (c_seq (c_seq (c_region (st (v:=.pointer (some ⟨g38,0 + 0,none⟩)) (fa51_0 (.tmp rfl hρ55)) ?_))))))
 refine st (v:=.int .u8 ((f.Kind:Nat):Int)) (ld5 (.tmp rfl rfl) (hs58.cell 1 rfl (0 + 0) rfl)) ?_
 refine c_nil (n_then (c_block (c_seq (c_region (st (v:=.bool (decide ((((f.Kind:Nat):Int):Int) = 1))) (x_eql (k:=.u8) (a:=((f.Kind:Nat):Int)) (b:=1) (.tmp rfl rfl) .const) ?_)))))
 refine st (v:=.bool (decide ((((f.Kind:Nat):Int):Int) = 1))) (x_assign (.tmp rfl rfl)) ?_
 refine c_nil (n_then ?_)
 rcases Bool.eq_false_or_eq_true (decide ((((f.Kind:Nat):Int):Int) = 1)) with hc65 | hc65
 have hp65:(((f.Kind:Nat):Int):Int) = 1:=of_decide_eq_true hc65
 refine c_cond_t (t:=true) (.tmp rfl (cVb hc65)) rfl ?_
 refine c_seq (t_region (L:=obj g42 37 (clState sx A34 n35 c36)::obj g38 51 (clFrame f A14 n15 c16 A19 n20 c21 A23 n24 c25)::obj g_m 78 ((.int .i64 ((m_n:Nat):Int))::(.int .i64 ((m_self:Nat):Int))::(.int .u64 ((m_cur.ID.N:Nat):Int))::(.int .i64 m_cur.ID.P)::(.int .u16 ((m_cur.Set:Nat):Int))::(.int .u64 ((m_prom.N:Nat):Int))::(.int .i64 m_prom.P)::(.int .u64 ((m_high:Nat):Int))::(.pointer none)::(.slice A_m jn_m jc_m)::oCells m_os)::L) (L':=obj g42 37 (clState sx A34 n35 c36)::obj g38 51 (clFrame f A14 n15 c16 A19 n20 c21 A23 n24 c25)::obj g_m 78 ((.int .i64 ((m_n:Nat):Int))::(.int .i64 ((m_self:Nat):Int))::(.int .u64 ((m_cur.ID.N:Nat):Int))::(.int .i64 m_cur.ID.P)::(.int .u16 ((m_cur.Set:Nat):Int))::(.int .u64 ((m_prom.N:Nat):Int))::(.int .i64 m_prom.P)::(.int .u64 ((m_high:Nat):Int))::(.pointer none)::(.slice A_m jn_m jc_m)::oCells m_os)::L) (Z:=[11]) (F:=[]) (pl:=(.q 0 (.q 1 (.q 2 (.q 3 (.q 4 (.q 5 (.q 6 (.q 7 (.q 8 (.q 9 (.q 10 (.e 11 .done))))))))))))) mixed hs58 (fun u hu => hu) (by kernel_rfl) ?_)
 intro w66 hs67
 refine t_st (k:=0) (v:=.pointer (some ⟨g_m,0,none⟩)) rfl rfl (fun w hs => (x_move (.tmp rfl hρ54))) ?_
 refine t_st (k:=1) (v:=.pointer (some ⟨g38,0 + 1,none⟩)) rfl rfl (fun w hs => (fa51_1 (.tmp rfl hρ55))) ?_
 refine t_st (k:=2) (v:=.int .i64 f.From) rfl rfl (fun w hs => (ld3 (.tmp rfl rfl) (hs.cell 1 rfl (0 + 1) rfl))) ?_
 refine t_st (k:=3) (v:=.pointer (some ⟨g38,0 + 5,none⟩)) rfl rfl (fun w hs => (fa51_4 (.tmp rfl hρ55))) ?_
 refine t_st (k:=4) (v:=.agg #[.int .u64 ((f.Cur.N:Nat):Int),.int .i64 f.Cur.P]) rfl rfl (fun w hs => (ld34 (cs:=[.int .u64 ((f.Cur.N:Nat):Int),.int .i64 f.Cur.P]) (.tmp rfl rfl) (hs.at_ 1 rfl (0 + 5) rfl) rfl)) ?_
 refine t_st (k:=5) (v:=.pointer (some ⟨g38,0 + 7,none⟩)) rfl rfl (fun w hs => (fa51_5 (.tmp rfl hρ55))) ?_
 refine t_st (k:=6) (v:=.agg #[.int .u64 ((f.Prom.N:Nat):Int),.int .i64 f.Prom.P]) rfl rfl (fun w hs => (ld34 (cs:=[.int .u64 ((f.Prom.N:Nat):Int),.int .i64 f.Prom.P]) (.tmp rfl rfl) (hs.at_ 1 rfl (0 + 7) rfl) rfl)) ?_
 refine t_st (k:=7) (v:=.agg #[.int .u8 0,.int .i64 0,.int .u64 0,.int .i64 0,.int .u16 0,.int .u64 ((f.Cur.N:Nat):Int),.int .i64 f.Cur.P,.int .u64 ((f.Prom.N:Nat):Int),.int .i64 f.Prom.P,.slice none 0 0,.int .u64 0,.slice none 0 0,.slice none 0 0,.int .u64 0,.int .u64 0]) rfl rfl (fun w hs => (bl51 (ps:=[(4,.agg #[.int .u64 ((f.Cur.N:Nat):Int),.int .i64 f.Cur.P]),(5,.agg #[.int .u64 ((f.Prom.N:Nat):Int),.int .i64 f.Prom.P])]) (.cons (.tmp rfl rfl) (.cons (.tmp rfl rfl) Evp.nil)) rfl)) ?_
 refine t_st (k:=8) (v:=.pointer (some ⟨g_m,0,none⟩)) rfl rfl (fun w hs => (x_nilCheck (.tmp rfl rfl))) ?_
 refine t_st (k:=9) (v:=.pointer (some ⟨g_m,0 + 10,none⟩)) rfl rfl (fun w hs => (fa78_7 (.tmp rfl rfl))) ?_
 refine t_st (k:=10) (v:=.pointer (some ⟨g_m,(10 + f.From.toNat * 15),none⟩)) rfl rfl (fun w hs => (ixo76 (.tmp rfl rfl) (i:=f.From) (.tmp rfl rfl) (by omega) (by omega) (by omega))) ?_
 refine t_eff (k:=11) rfl ?_
 have hs68:=hs67.p2
 refine st_m0 (sto51 (cs':=((.int .i64 ((m_n:Nat):Int))::(.int .i64 ((m_self:Nat):Int))::(.int .u64 ((m_cur.ID.N:Nat):Int))::(.int .i64 m_cur.ID.P)::(.int .u16 ((m_cur.Set:Nat):Int))::(.int .u64 ((m_prom.N:Nat):Int))::(.int .i64 m_prom.P)::(.int .u64 ((m_high:Nat):Int))::(.pointer none)::(.slice A_m jn_m jc_m)::oCells (m_os.set f.From.toNat (f.Cur,f.Prom)))) (i:=10 + f.From.toNat * 15) hs68 (v:=.agg #[.int .u8 0,.int .i64 0,.int .u64 0,.int .i64 0,.int .u16 0,.int .u64 ((f.Cur.N:Nat):Int),.int .i64 f.Cur.P,.int .u64 ((f.Prom.N:Nat):Int),.int .i64 f.Prom.P,.slice none 0 0,.int .u64 0,.slice none 0 0,.slice none 0 0,.int .u64 0,.int .u64 0]) (.tmp rfl rfl) (.tmp rfl rfl) rfl (by rw [mem_len10 ok_m.len]; omega) (oneA rfl) (oth_set (x:=(f.Cur,f.Prom)) ok_m.len (by omega))) ?_
 rintro w69 hs70
 refine t_new (S':=fun u => St H u (obj g_m 78 ((.int .i64 ((m_n:Nat):Int))::(.int .i64 ((m_self:Nat):Int))::(.int .u64 ((m_cur.ID.N:Nat):Int))::(.int .i64 m_cur.ID.P)::(.int .u16 ((m_cur.Set:Nat):Int))::(.int .u64 ((m_prom.N:Nat):Int))::(.int .i64 m_prom.P)::(.int .u64 ((m_high:Nat):Int))::(.pointer none)::(.slice A_m jn_m jc_m)::oCells (m_os.set f.From.toNat (f.Cur,f.Prom)))::obj g42 37 (clState sx A34 n35 c36)::obj g38 51 (clFrame f A14 n15 c16 A19 n20 c21 A23 n24 c25)::L)) rfl hs70 ?_
 refine t_nil ?_
 refine n_then (c_seq (c_region (st (v:=.pointer (some ⟨g_m,0,none⟩)) (x_move (.tmp rfl hρ54)) ?_)))
 refine st (v:=.pointer (some ⟨g38,0 + 5,none⟩)) (fa51_4 (.tmp rfl hρ55)) ?_
 refine st (v:=.agg #[.int .u64 ((f.Cur.N:Nat):Int),.int .i64 f.Cur.P]) (ld34 (cs:=[.int .u64 ((f.Cur.N:Nat):Int),.int .i64 f.Cur.P]) (.tmp rfl rfl) (hs70.at_ 2 rfl (0 + 5) rfl) rfl) ?_
 have okm71:MemB H m_n m_self m_cur m_prom m_high A_m jn_m jc_m m_jl (m_os.set f.From.toNat (f.Cur,f.Prom)):=⟨hn1_m,hn16_m,hsf_m,⟨ok_m.cur.n,ok_m.cur.p⟩,ok_m.set,⟨ok_m.prom.n,ok_m.prom.p⟩,ok_m.high,ok_m.joined,(by rw [List.length_set]; exact ok_m.len),(oth_set_ok (x:=(f.Cur,f.Prom)) ok_m.oth ⟨⟨b8,⟨b9,b10⟩⟩,⟨b11,⟨b12,b13⟩⟩⟩)⟩
 have hr72:kViewID.rep H f.Cur [.int .u64 ((f.Cur.N:Nat):Int),.int .i64 f.Cur.P]:=⟨rfl,b8,⟨b9,b10⟩⟩
 refine st_c cb30 .func (evs2 (.tmp rfl rfl) (.tmp rfl rfl)) (hear_X hs70 (m_prop:=none) (m_n:=m_n) (m_self:=m_self) (m_cur:=m_cur) (m_prom:=m_prom) (m_high:=m_high) (m_jl:=m_jl) (m_os:=(m_os.set f.From.toNat (f.Cur,f.Prom))) okm71 f.Cur hr72 ) ?_
 rintro e w73 ⟨rfl,okm75,hs74⟩
 refine ⟨_,rfl,?_⟩
 refine c_nil (n_then (c_seq (c_region (st (v:=.pointer (some ⟨g_m,0,none⟩)) (x_move (.tmp rfl hρ54)) ?_))))
 refine st (v:=.pointer (some ⟨g38,0 + 7,none⟩)) (fa51_5 (.tmp rfl hρ55)) ?_
 refine st (v:=.agg #[.int .u64 ((f.Prom.N:Nat):Int),.int .i64 f.Prom.P]) (ld34 (cs:=[.int .u64 ((f.Prom.N:Nat):Int),.int .i64 f.Prom.P]) (.tmp rfl rfl) (hs74.at_ 2 rfl (0 + 7) rfl) rfl) ?_
 have okm76:MemB H m_n m_self m_cur m_prom (max m_high f.Cur.N) A_m jn_m jc_m m_jl (m_os.set f.From.toNat (f.Cur,f.Prom)):=⟨hn1_m,hn16_m,hsf_m,⟨okm75.cur.n,okm75.cur.p⟩,okm75.set,⟨okm75.prom.n,okm75.prom.p⟩,okm75.high,okm75.joined,okm75.len,okm75.oth⟩
 have hr77:kViewID.rep H f.Prom [.int .u64 ((f.Prom.N:Nat):Int),.int .i64 f.Prom.P]:=⟨rfl,b11,⟨b12,b13⟩⟩
 refine st_c cb30 .func (evs2 (.tmp rfl rfl) (.tmp rfl rfl)) (hear_X hs74 (m_prop:=none) (m_n:=m_n) (m_self:=m_self) (m_cur:=m_cur) (m_prom:=m_prom) (m_high:=(max m_high f.Cur.N)) (m_jl:=m_jl) (m_os:=(m_os.set f.From.toNat (f.Cur,f.Prom))) okm76 f.Prom hr77 ) ?_
 rintro e w78 ⟨rfl,okm80,hs79⟩
 refine ⟨_,rfl,?_⟩
 refine c_nil (n_then (c_seq (c_region (st (v:=.slice none 0 0) (x_assign .const) ?_))))
 refine st (v:=.pointer none) (x_assign .const) ?_
 refine st (v:=.int .i64 0) (x_assign .const) ?_
 refine c_nil (n_then (c_ret (r_block (r_then (leave_ret (res_three (v:=.slice none 0 0) (u:=.pointer none) (x:=.int .i64 0) rfl (.mk rfl rfl) (.mk rfl rfl) (.mk rfl rfl)) ?_)))))
 have hpq:(MB.inn (MB.mk m_n m_self m_cur m_prom m_high none m_jl m_os) f sx) = _:=inn_beat hc59 hc65
 rw [hpq]
 have hs81:=hs79.krowNil 53 kOut
 have okm83:MemB H m_n m_self m_cur m_prom (max (max m_high f.Cur.N) f.Prom.N) A_m jn_m jc_m m_jl (m_os.set f.From.toNat (f.Cur,f.Prom)):=⟨hn1_m,hn16_m,hsf_m,⟨okm80.cur.n,okm80.cur.p⟩,okm80.set,⟨okm80.prom.n,okm80.prom.p⟩,okm80.high,okm80.joined,okm80.len,okm80.oth⟩
 have hs84:=hs81.p1
 have hs85:St H _ (row 53 16 (.slice none 0 0) (([]:List GOut).length) []::obj g42 37 (clState sx A34 n35 c36)::obj g38 51 (clFrame f A14 n15 c16 A19 n20 c21 A23 n24 c25)::memR 78 81 37 g_m 0 A_m jn_m jc_m (.slice none 0 0) [] (MB.mk m_n m_self m_cur m_prom (max (max m_high f.Cur.N) f.Prom.N) none m_jl (m_os.set f.From.toNat (f.Cur,f.Prom))) ++ (L)):=St.foldN (TP:=81) (TS:=37) (gp:=0) (sv:=(.slice none 0 0)) (sc:=[]) [row 53 16 (.slice none 0 0) (([]:List GOut).length) [],obj g42 37 (clState sx A34 n35 c36),obj g38 51 (clFrame f A14 n15 c16 A19 n20 c21 A23 n24 c25)] hs84
 exact ⟨H,(.slice none 0 0),[],(.pointer none),(MB.mk m_n m_self m_cur m_prom (max (max m_high f.Cur.N) f.Prom.N) none m_jl (m_os.set f.From.toNat (f.Cur,f.Prom))),0,A_m,jn_m,jc_m,(.slice none 0 0),[],(Hp.le.refl _),rfl,(RowOk.knil kOut),(Kn.rows_nil _ _),InstAt.none',okm83.okN,rfl,((hs85.p1).drop.p1).drop⟩
 have hp65:¬ ((((f.Kind:Nat):Int):Int) = 1):=of_decide_eq_false hc65
 refine c_cond_f (t:=false) (.tmp rfl (cVb hc65)) rfl ?_
 refine c_seq (c_region (st (v:=.bool (decide ((((f.Kind:Nat):Int):Int) = 2))) (x_eql (k:=.u8) (a:=((f.Kind:Nat):Int)) (b:=2) (.tmp rfl rfl) .const) ?_))
 refine st (v:=.bool (decide ((((f.Kind:Nat):Int):Int) = 2))) (x_assign (.tmp rfl rfl)) ?_
 refine c_nil (n_then ?_)
 rcases Bool.eq_false_or_eq_true (decide ((((f.Kind:Nat):Int):Int) = 2)) with hc86 | hc86
 have hp86:(((f.Kind:Nat):Int):Int) = 2:=of_decide_eq_true hc86
 refine c_cond_t (t:=true) (.tmp rfl (cVb hc86)) rfl ?_
 refine c_seq (c_region (st (v:=.pointer (some ⟨g_m,0,none⟩)) (x_move (.tmp rfl hρ54)) ?_))
 refine st (v:=.agg #[.int .u8 ((f.Kind:Nat):Int),.int .i64 f.From,.int .u64 ((f.ID.N:Nat):Int),.int .i64 f.ID.P,.int .u16 ((f.Set:Nat):Int),.int .u64 ((f.Cur.N:Nat):Int),.int .i64 f.Cur.P,.int .u64 ((f.Prom.N:Nat):Int),.int .i64 f.Prom.P,.slice A14 n15 c16,.int .u64 ((f.Base:Nat):Int),.slice A19 n20 c21,.slice A23 n24 c25,.int .u64 ((f.Ack:Nat):Int),.int .u64 ((f.Safe:Nat):Int)]) (ld51 (cs:=[.int .u8 ((f.Kind:Nat):Int),.int .i64 f.From,.int .u64 ((f.ID.N:Nat):Int),.int .i64 f.ID.P,.int .u16 ((f.Set:Nat):Int),.int .u64 ((f.Cur.N:Nat):Int),.int .i64 f.Cur.P,.int .u64 ((f.Prom.N:Nat):Int),.int .i64 f.Prom.P,.slice A14 n15 c16,.int .u64 ((f.Base:Nat):Int),.slice A19 n20 c21,.slice A23 n24 c25,.int .u64 ((f.Ack:Nat):Int),.int .u64 ((f.Safe:Nat):Int)]) (.tmp rfl hρ55) (hs58.at_ 1 rfl (0) rfl) rfl) ?_
 refine st (v:=.agg #[.int .u64 ((sx.V.N:Nat):Int),.int .i64 sx.V.P,.int .i64 sx.Floor,.slice A34 n35 c36]) (ld37 (cs:=[.int .u64 ((sx.V.N:Nat):Int),.int .i64 sx.V.P,.int .i64 sx.Floor,.slice A34 n35 c36]) (.tmp rfl hρ56) (hs58.at_ 0 rfl (0) rfl) rfl) ?_
 have hs87:=hs58.p2
 have okm88:MemB H m_n m_self m_cur m_prom m_high A_m jn_m jc_m m_jl m_os:=⟨hn1_m,hn16_m,hsf_m,⟨ok_m.cur.n,ok_m.cur.p⟩,ok_m.set,⟨ok_m.prom.n,ok_m.prom.p⟩,ok_m.high,ok_m.joined,ok_m.len,ok_m.oth⟩
 have hr89:kFrame.rep H f [.int .u8 ((f.Kind:Nat):Int),.int .i64 f.From,.int .u64 ((f.ID.N:Nat):Int),.int .i64 f.ID.P,.int .u16 ((f.Set:Nat):Int),.int .u64 ((f.Cur.N:Nat):Int),.int .i64 f.Cur.P,.int .u64 ((f.Prom.N:Nat):Int),.int .i64 f.Prom.P,.slice A14 n15 c16,.int .u64 ((f.Base:Nat):Int),.slice A19 n20 c21,.slice A23 n24 c25,.int .u64 ((f.Ack:Nat):Int),.int .u64 ((f.Safe:Nat):Int)]:=⟨A14,n15,c16,A19,n20,c21,A23,n24,c25,rfl,b1,⟨b2,b3⟩,b4,⟨b5,b6⟩,b7,b8,⟨b9,b10⟩,b11,⟨b12,b13⟩,hl17,b18,hl22,hl26,b27,b28⟩
 have hr90:kState.rep H sx [.int .u64 ((sx.V.N:Nat):Int),.int .i64 sx.V.P,.int .i64 sx.Floor,.slice A34 n35 c36]:=⟨A34,n35,c36,rfl,b29,⟨b30,b31⟩,⟨b32,b33⟩,hl37⟩
 refine st_c cb31 .func (evs3 (.tmp rfl rfl) (.tmp rfl rfl) (.tmp rfl rfl)) (propose_X hs87 (m_prop:=none) (m_n:=m_n) (m_self:=m_self) (m_cur:=m_cur) (m_prom:=m_prom) (m_high:=m_high) (m_jl:=m_jl) (m_os:=m_os) okm88 f hr89 sx hr90 ) ?_
 rintro e w91 ⟨H93,v95,cs98,pz101,hz102,hle94,rfl,ok96,hk99,okm100,hme103,hs92⟩
 refine ⟨_,rfl,?_⟩
 refine st (v:=v95) (x_extract (.tmp rfl rfl) (i:=0) rfl) ?_
 refine st (v:=.pointer none) (x_extract (.tmp rfl rfl) (i:=1) rfl) ?_
 refine st (v:=.int .i64 ((MB.propose (MB.mk m_n m_self m_cur m_prom m_high none m_jl m_os) f sx).2.2.2)) (x_extract (.tmp rfl rfl) (i:=2) rfl) ?_
 refine st (v:=v95) (x_assign (.tmp rfl rfl)) ?_
 refine st (v:=.pointer none) (x_assign (.tmp rfl rfl)) ?_
 refine st (v:=.int .i64 ((MB.propose (MB.mk m_n m_self m_cur m_prom m_high none m_jl m_os) f sx).2.2.2)) (x_assign (.tmp rfl rfl)) ?_
 refine c_nil (n_then (c_ret (r_block (r_then (leave_ret (res_three (v:=v95) (u:=.pointer none) (x:=.int .i64 ((MB.propose (MB.mk m_n m_self m_cur m_prom m_high none m_jl m_os) f sx).2.2.2)) rfl (.mk rfl rfl) (.mk rfl rfl) (.mk rfl rfl)) ?_)))))
 have hpq:(MB.inn (MB.mk m_n m_self m_cur m_prom m_high none m_jl m_os) f sx) = _:=inn_prop hc59 hc65 hc86
 rw [hpq]
 have okm104:MemB H93 m_n m_self m_cur pz101 hz102 A_m jn_m jc_m m_jl m_os:=⟨hn1_m,hn16_m,hsf_m,⟨okm100.cur.n,okm100.cur.p⟩,okm100.set,⟨okm100.prom.n,okm100.prom.p⟩,okm100.high,okm100.joined,okm100.len,okm100.oth⟩
 have hs105:=hs92.p1
 have hs106:St H93 _ (row 53 16 v95 (((MB.propose (MB.mk m_n m_self m_cur m_prom m_high none m_jl m_os) f sx).2.1).length) cs98::obj g42 37 (clState sx A34 n35 c36)::obj g38 51 (clFrame f A14 n15 c16 A19 n20 c21 A23 n24 c25)::memR 78 81 37 g_m 0 A_m jn_m jc_m (.slice none 0 0) [] (MB.mk m_n m_self m_cur pz101 hz102 none m_jl m_os) ++ (L)):=St.foldN (TP:=81) (TS:=37) (gp:=0) (sv:=(.slice none 0 0)) (sc:=[]) [row 53 16 v95 (((MB.propose (MB.mk m_n m_self m_cur m_prom m_high none m_jl m_os) f sx).2.1).length) cs98,obj g42 37 (clState sx A34 n35 c36),obj g38 51 (clFrame f A14 n15 c16 A19 n20 c21 A23 n24 c25)] hs105
 exact ⟨H93,v95,cs98,(.pointer none),(MB.mk m_n m_self m_cur pz101 hz102 none m_jl m_os),0,A_m,jn_m,jc_m,(.slice none 0 0),[],hle94,rfl,ok96,hk99,(InstAt.none_of propose_none),okm104.okN,hme103,((hs106.p1).drop.p1).drop⟩
 have hp86:¬ ((((f.Kind:Nat):Int):Int) = 2):=of_decide_eq_false hc86
 refine c_cond_f (t:=false) (.tmp rfl (cVb hc86)) rfl ?_
 refine c_seq (c_region (st (v:=.bool (decide ((((f.Kind:Nat):Int):Int) = 3))) (x_eql (k:=.u8) (a:=((f.Kind:Nat):Int)) (b:=3) (.tmp rfl rfl) .const) ?_))
 refine st (v:=.bool (decide ((((f.Kind:Nat):Int):Int) = 3))) (x_assign (.tmp rfl rfl)) ?_
 refine c_nil (n_then ?_)
 rcases Bool.eq_false_or_eq_true (decide ((((f.Kind:Nat):Int):Int) = 3)) with hc107 | hc107
 have hp107:(((f.Kind:Nat):Int):Int) = 3:=of_decide_eq_true hc107
 refine c_cond_t (t:=true) (.tmp rfl (cVb hc107)) rfl ?_
 refine c_seq (c_region (st (v:=.pointer (some ⟨g_m,0,none⟩)) (x_move (.tmp rfl hρ54)) ?_))
 refine st (v:=.agg #[.int .u8 ((f.Kind:Nat):Int),.int .i64 f.From,.int .u64 ((f.ID.N:Nat):Int),.int .i64 f.ID.P,.int .u16 ((f.Set:Nat):Int),.int .u64 ((f.Cur.N:Nat):Int),.int .i64 f.Cur.P,.int .u64 ((f.Prom.N:Nat):Int),.int .i64 f.Prom.P,.slice A14 n15 c16,.int .u64 ((f.Base:Nat):Int),.slice A19 n20 c21,.slice A23 n24 c25,.int .u64 ((f.Ack:Nat):Int),.int .u64 ((f.Safe:Nat):Int)]) (ld51 (cs:=[.int .u8 ((f.Kind:Nat):Int),.int .i64 f.From,.int .u64 ((f.ID.N:Nat):Int),.int .i64 f.ID.P,.int .u16 ((f.Set:Nat):Int),.int .u64 ((f.Cur.N:Nat):Int),.int .i64 f.Cur.P,.int .u64 ((f.Prom.N:Nat):Int),.int .i64 f.Prom.P,.slice A14 n15 c16,.int .u64 ((f.Base:Nat):Int),.slice A19 n20 c21,.slice A23 n24 c25,.int .u64 ((f.Ack:Nat):Int),.int .u64 ((f.Safe:Nat):Int)]) (.tmp rfl hρ55) (hs58.at_ 1 rfl (0) rfl) rfl) ?_
 have hs108:=hs58.p2
 have okm109:MemB H m_n m_self m_cur m_prom m_high A_m jn_m jc_m m_jl m_os:=⟨hn1_m,hn16_m,hsf_m,⟨ok_m.cur.n,ok_m.cur.p⟩,ok_m.set,⟨ok_m.prom.n,ok_m.prom.p⟩,ok_m.high,ok_m.joined,ok_m.len,ok_m.oth⟩
 have hr110:kFrame.rep H f [.int .u8 ((f.Kind:Nat):Int),.int .i64 f.From,.int .u64 ((f.ID.N:Nat):Int),.int .i64 f.ID.P,.int .u16 ((f.Set:Nat):Int),.int .u64 ((f.Cur.N:Nat):Int),.int .i64 f.Cur.P,.int .u64 ((f.Prom.N:Nat):Int),.int .i64 f.Prom.P,.slice A14 n15 c16,.int .u64 ((f.Base:Nat):Int),.slice A19 n20 c21,.slice A23 n24 c25,.int .u64 ((f.Ack:Nat):Int),.int .u64 ((f.Safe:Nat):Int)]:=⟨A14,n15,c16,A19,n20,c21,A23,n24,c25,rfl,b1,⟨b2,b3⟩,b4,⟨b5,b6⟩,b7,b8,⟨b9,b10⟩,b11,⟨b12,b13⟩,hl17,b18,hl22,hl26,b27,b28⟩
 refine st_c cb32 .func (evs2 (.tmp rfl rfl) (.tmp rfl rfl)) (accept_N hs108 (m_n:=m_n) (m_self:=m_self) (m_cur:=m_cur) (m_prom:=m_prom) (m_high:=m_high) (m_jl:=m_jl) (m_os:=m_os) okm109 f hr110 ) ?_
 rintro e w111 ⟨H113,v115,cs118,iv120,hle114,rfl,ok116,hk119,hin121,okm122,hme123,hs112⟩
 refine ⟨_,rfl,?_⟩
 refine st (v:=v115) (x_extract (.tmp rfl rfl) (i:=0) rfl) ?_
 refine st (v:=iv120) (x_extract (.tmp rfl rfl) (i:=1) rfl) ?_
 refine st (v:=.int .i64 ((MB.accept (MB.mk m_n m_self m_cur m_prom m_high none m_jl m_os) f).2.2.2)) (x_extract (.tmp rfl rfl) (i:=2) rfl) ?_
 refine st (v:=v115) (x_assign (.tmp rfl rfl)) ?_
 refine st (v:=iv120) (x_assign (.tmp rfl rfl)) ?_
 refine st (v:=.int .i64 ((MB.accept (MB.mk m_n m_self m_cur m_prom m_high none m_jl m_os) f).2.2.2)) (x_assign (.tmp rfl rfl)) ?_
 refine c_nil (n_then (c_ret (r_block (r_then (leave_ret (res_three (v:=v115) (u:=iv120) (x:=.int .i64 ((MB.accept (MB.mk m_n m_self m_cur m_prom m_high none m_jl m_os) f).2.2.2)) rfl (.mk rfl rfl) (.mk rfl rfl) (.mk rfl rfl)) ?_)))))
 have hpq:(MB.inn (MB.mk m_n m_self m_cur m_prom m_high none m_jl m_os) f sx) = _:=inn_acc hc59 hc65 hc86 hc107
 rw [hpq]
 have okm124:MemB H113 m_n m_self m_cur m_prom m_high A_m jn_m jc_m m_jl m_os:=⟨hn1_m,hn16_m,hsf_m,⟨okm122.cur.n,okm122.cur.p⟩,okm122.set,⟨okm122.prom.n,okm122.prom.p⟩,okm122.high,okm122.joined,okm122.len,okm122.oth⟩
 have hs125:=hs112.p1
 have hs126:St H113 _ (row 53 16 v115 (((MB.accept (MB.mk m_n m_self m_cur m_prom m_high none m_jl m_os) f).2.1).length) cs118::obj g42 37 (clState sx A34 n35 c36)::obj g38 51 (clFrame f A14 n15 c16 A19 n20 c21 A23 n24 c25)::memR 78 81 37 g_m 0 A_m jn_m jc_m (.slice none 0 0) [] (MB.mk m_n m_self m_cur m_prom m_high none m_jl m_os) ++ (L)):=St.foldN (TP:=81) (TS:=37) (gp:=0) (sv:=(.slice none 0 0)) (sc:=[]) [row 53 16 v115 (((MB.accept (MB.mk m_n m_self m_cur m_prom m_high none m_jl m_os) f).2.1).length) cs118,obj g42 37 (clState sx A34 n35 c36),obj g38 51 (clFrame f A14 n15 c16 A19 n20 c21 A23 n24 c25)] hs125
 exact ⟨H113,v115,cs118,iv120,(MB.mk m_n m_self m_cur m_prom m_high none m_jl m_os),0,A_m,jn_m,jc_m,(.slice none 0 0),[],hle114,rfl,ok116,hk119,hin121,okm124.okN,hme123,((hs126.p1).drop.p1).drop⟩
 have hp107:¬ ((((f.Kind:Nat):Int):Int) = 3):=of_decide_eq_false hc107
 refine c_cond_f (t:=false) (.tmp rfl (cVb hc107)) rfl ?_
 refine c_seq (c_region (st (v:=.bool (decide ((((f.Kind:Nat):Int):Int) = 4))) (x_eql (k:=.u8) (a:=((f.Kind:Nat):Int)) (b:=4) (.tmp rfl rfl) .const) ?_))
 refine st (v:=.bool (decide ((((f.Kind:Nat):Int):Int) = 4))) (x_assign (.tmp rfl rfl)) ?_
 refine c_nil (n_then ?_)
 rcases Bool.eq_false_or_eq_true (decide ((((f.Kind:Nat):Int):Int) = 4)) with hc127 | hc127
 have hp127:(((f.Kind:Nat):Int):Int) = 4:=of_decide_eq_true hc127
 refine c_cond_t (t:=true) (.tmp rfl (cVb hc127)) rfl ?_
 refine c_seq (c_region (st (v:=.pointer (some ⟨g_m,0,none⟩)) (x_move (.tmp rfl hρ54)) ?_))
 refine st (v:=.pointer (some ⟨g38,0 + 7,none⟩)) (fa51_5 (.tmp rfl hρ55)) ?_
 refine st (v:=.agg #[.int .u64 ((f.Prom.N:Nat):Int),.int .i64 f.Prom.P]) (ld34 (cs:=[.int .u64 ((f.Prom.N:Nat):Int),.int .i64 f.Prom.P]) (.tmp rfl rfl) (hs58.at_ 1 rfl (0 + 7) rfl) rfl) ?_
 have hs128:=hs58.p2
 have okm129:MemB H m_n m_self m_cur m_prom m_high A_m jn_m jc_m m_jl m_os:=⟨hn1_m,hn16_m,hsf_m,⟨ok_m.cur.n,ok_m.cur.p⟩,ok_m.set,⟨ok_m.prom.n,ok_m.prom.p⟩,ok_m.high,ok_m.joined,ok_m.len,ok_m.oth⟩
 have hr130:kViewID.rep H f.Prom [.int .u64 ((f.Prom.N:Nat):Int),.int .i64 f.Prom.P]:=⟨rfl,b11,⟨b12,b13⟩⟩
 refine st_c cb30 .func (evs2 (.tmp rfl rfl) (.tmp rfl rfl)) (hear_X hs128 (m_prop:=none) (m_n:=m_n) (m_self:=m_self) (m_cur:=m_cur) (m_prom:=m_prom) (m_high:=m_high) (m_jl:=m_jl) (m_os:=m_os) okm129 f.Prom hr130 ) ?_
 rintro e w131 ⟨rfl,okm133,hs132⟩
 refine ⟨_,rfl,?_⟩
 refine c_nil (n_then (c_seq (c_seq (c_region (st (v:=.pointer (some ⟨g_m,0,none⟩)) (x_move (.tmp rfl hρ54)) ?_)))))
 refine st (v:=.pointer (some ⟨g_m,0,none⟩)) (x_nilCheck (.tmp rfl rfl)) ?_
 refine st (v:=.pointer (some ⟨g_m,0 + 8,none⟩)) (fa78_5 (.tmp rfl rfl)) ?_
 refine st (v:=.pointer none) (ld75 (.tmp rfl rfl) (hs132.cell 0 rfl (0 + 8) rfl)) ?_
 refine st (v:=.pointer none) (x_assign (.tmp rfl rfl)) ?_
 refine c_nil (n_then (c_seq (q_region mixed hs132 (by kernel_rfl) ?_)))
 refine q_st (v:=.pointer none) (fun w hs => (x_move (.tmp rfl rfl))) ?_
 refine q_st (v:=.bool false) (fun w hs => (x_neqP Tryd.underlying75 (.tmp rfl rfl) .const rfl)) ?_
 refine q_st (v:=.bool false) (fun w hs => (x_move (.tmp rfl rfl))) ?_
 refine q_no (yl (dj:=87) (b:=false) rfl rfl rfl) rfl ?_
 refine q_no (yl (dj:=87) (b:=false) rfl rfl rfl) rfl ?_
 refine q_no (yl (dj:=87) (b:=false) rfl rfl rfl) rfl ?_
 refine q_no (yl (dj:=87) (b:=false) rfl rfl rfl) rfl ?_
 refine q_no (yl (dj:=87) (b:=false) rfl rfl rfl) rfl ?_
 refine q_no (yl (dj:=87) (b:=false) rfl rfl rfl) rfl ?_
 refine q_no (yl (dj:=87) (b:=false) rfl rfl rfl) rfl ?_
 refine q_no (yl (dj:=87) (b:=false) rfl rfl rfl) rfl ?_
 refine q_st (v:=.bool false) (fun w hs => (x_pick_f (.tmp rfl rfl) .const)) ?_
 refine q_st (v:=.bool false) (fun w hs => (x_move (.tmp rfl rfl))) ?_
 refine q_no (yl (dj:=97) (b:=false) rfl rfl rfl) rfl ?_
 refine q_no (yl (dj:=97) (b:=false) rfl rfl rfl) rfl ?_
 refine q_no (yl (dj:=97) (b:=false) rfl rfl rfl) rfl ?_
 refine q_no (yl (dj:=97) (b:=false) rfl rfl rfl) rfl ?_
 refine q_no (yl (dj:=97) (b:=false) rfl rfl rfl) rfl ?_
 refine q_st (v:=.bool false) (fun w hs => (x_pick_f (.tmp rfl rfl) .const)) ?_
 refine q_st (v:=.bool false) (fun w hs => (x_move (.tmp rfl rfl))) ?_
 refine q_no (yl (dj:=104) (b:=false) rfl rfl rfl) rfl ?_
 refine q_no (yl (dj:=104) (b:=false) rfl rfl rfl) rfl ?_
 refine q_no (yl (dj:=104) (b:=false) rfl rfl rfl) rfl ?_
 refine q_no (yl (dj:=104) (b:=false) rfl rfl rfl) rfl ?_
 refine q_no (yl (dj:=104) (b:=false) rfl rfl rfl) rfl ?_
 refine q_st (v:=.bool false) (fun w hs => (x_pick_f (.tmp rfl rfl) .const)) ?_
 refine q_nil ?_
 intro w hs134
 refine n_then (c_cond_f (t:=false) (.tmp rfl rfl) rfl ?_)
 refine c_skip (n_then (c_seq (c_region (st (v:=.slice none 0 0) (x_assign .const) ?_))))
 refine st (v:=.pointer none) (x_assign .const) ?_
 refine st (v:=.int .i64 0) (x_assign .const) ?_
 refine c_nil (n_then (c_ret (r_block (r_then (leave_ret (res_three (v:=.slice none 0 0) (u:=.pointer none) (x:=.int .i64 0) rfl (.mk rfl rfl) (.mk rfl rfl) (.mk rfl rfl)) ?_)))))
 have hpq:(MB.inn (MB.mk m_n m_self m_cur m_prom m_high none m_jl m_os) f sx) = _:=inn_ref_N hc59 hc65 hc86 hc107 hc127
 rw [hpq]
 have hs135:=hs134.krowNil 53 kOut
 have okm137:MemB H m_n m_self m_cur m_prom (max m_high f.Prom.N) A_m jn_m jc_m m_jl m_os:=⟨hn1_m,hn16_m,hsf_m,⟨okm133.cur.n,okm133.cur.p⟩,okm133.set,⟨okm133.prom.n,okm133.prom.p⟩,okm133.high,okm133.joined,okm133.len,okm133.oth⟩
 have hs138:=hs135.p1
 have hs139:St H _ (row 53 16 (.slice none 0 0) (([]:List GOut).length) []::obj g42 37 (clState sx A34 n35 c36)::obj g38 51 (clFrame f A14 n15 c16 A19 n20 c21 A23 n24 c25)::memR 78 81 37 g_m 0 A_m jn_m jc_m (.slice none 0 0) [] (MB.mk m_n m_self m_cur m_prom (max m_high f.Prom.N) none m_jl m_os) ++ (L)):=St.foldN (TP:=81) (TS:=37) (gp:=0) (sv:=(.slice none 0 0)) (sc:=[]) [row 53 16 (.slice none 0 0) (([]:List GOut).length) [],obj g42 37 (clState sx A34 n35 c36),obj g38 51 (clFrame f A14 n15 c16 A19 n20 c21 A23 n24 c25)] hs138
 exact ⟨H,(.slice none 0 0),[],(.pointer none),(MB.mk m_n m_self m_cur m_prom (max m_high f.Prom.N) none m_jl m_os),0,A_m,jn_m,jc_m,(.slice none 0 0),[],(Hp.le.refl _),rfl,(RowOk.knil kOut),(Kn.rows_nil _ _),InstAt.none',okm137.okN,rfl,((hs139.p1).drop.p1).drop⟩
 have hp127:¬ ((((f.Kind:Nat):Int):Int) = 4):=of_decide_eq_false hc127
 refine c_cond_f (t:=false) (.tmp rfl (cVb hc127)) rfl ?_
 refine c_seq (c_region (st (v:=.bool (decide ((((f.Kind:Nat):Int):Int) = 5))) (x_eql (k:=.u8) (a:=((f.Kind:Nat):Int)) (b:=5) (.tmp rfl rfl) .const) ?_))
 refine st (v:=.bool (decide ((((f.Kind:Nat):Int):Int) = 5))) (x_assign (.tmp rfl rfl)) ?_
 refine c_nil (n_then ?_)
 rcases Bool.eq_false_or_eq_true (decide ((((f.Kind:Nat):Int):Int) = 5)) with hc140 | hc140
 have hp140:(((f.Kind:Nat):Int):Int) = 5:=of_decide_eq_true hc140
 refine c_cond_t (t:=true) (.tmp rfl (cVb hc140)) rfl ?_
 refine c_seq (c_seq (q_region mixed hs58 (by kernel_rfl) ?_))
 refine q_st (v:=.pointer (some ⟨g38,0 + 2,none⟩)) (fun w hs => (fa51_2 (.tmp rfl hρ55))) ?_
 refine q_st (v:=.agg #[.int .u64 ((f.ID.N:Nat):Int),.int .i64 f.ID.P]) (fun w hs => (ld34 (cs:=[.int .u64 ((f.ID.N:Nat):Int),.int .i64 f.ID.P]) (.tmp rfl rfl) (hs.at_ 1 rfl (0 + 2) rfl) rfl)) ?_
 refine q_st (v:=.pointer (some ⟨g_m,0,none⟩)) (fun w hs => (x_move (.tmp rfl hρ54))) ?_
 refine q_st (v:=.pointer (some ⟨g_m,0,none⟩)) (fun w hs => (x_nilCheck (.tmp rfl rfl))) ?_
 refine q_st (v:=.pointer (some ⟨g_m,0 + 5,none⟩)) (fun w hs => (fa78_3 (.tmp rfl rfl))) ?_
 refine q_st (v:=.agg #[.int .u64 ((m_prom.N:Nat):Int),.int .i64 m_prom.P]) (fun w hs => (ld34 (cs:=[.int .u64 ((m_prom.N:Nat):Int),.int .i64 m_prom.P]) (.tmp rfl rfl) (hs.at_ 2 rfl (0 + 5) rfl) rfl)) ?_
 refine q_st (v:=.bool (!((((f.ID.N:Nat):Int) == ((m_prom.N:Nat):Int)) && ((f.ID.P == m_prom.P) && true)))) (fun w hs => (x_neqA eqg34 (.tmp rfl rfl) (.tmp rfl rfl) (fun d => eqs34 (d + 98) _ ((f.ID.N:Nat):Int) ((m_prom.N:Nat):Int) f.ID.P m_prom.P))) ?_
 refine q_st (v:=.bool (!(decide (f.ID = m_prom)))) (fun w hs => (x_move (.tmp rfl (congrArg (fun z => Value.bool (!z)) (GViewID.beq_dec f.ID m_prom))))) ?_
 refine jq 9 (fun ρ => ρ 132 = .bool ((!(decide (f.ID = m_prom))) || (decide (m_cur.ID = f.ID)))∧ρ 0 = .pointer (some ⟨g_m,0,none⟩)∧ρ 4 = .pointer (some ⟨g38,0,none⟩)∧True) ?_ ?_
 rcases Bool.eq_false_or_eq_true (decide (f.ID = m_prom)) with hc141 | hc141
 have hp141:f.ID = m_prom:=of_decide_eq_true hc141
 refine q_yes (yl (dj:=123) (b:=false) rfl rfl (cVb (by rw [hc141]; rfl))) ?_
 refine q_st (v:=.pointer (some ⟨g_m,0,none⟩)) (fun w hs => (x_move (.tmp rfl hρ54))) ?_
 refine q_yes (yl (dj:=123) (b:=false) rfl rfl (cVb (by rw [hc141]; rfl))) ?_
 refine q_st (v:=.pointer (some ⟨g_m,0,none⟩)) (fun w hs => (x_nilCheck (.tmp rfl rfl))) ?_
 refine q_yes (yl (dj:=123) (b:=false) rfl rfl (cVb (by rw [hc141]; rfl))) ?_
 refine q_st (v:=.pointer (some ⟨g_m,0 + 2,none⟩)) (fun w hs => (fa78_2 (.tmp rfl rfl))) ?_
 refine q_yes (yl (dj:=123) (b:=false) rfl rfl (cVb (by rw [hc141]; rfl))) ?_
 refine q_st (v:=.pointer (some ⟨g_m,0 + 2 + 0,none⟩)) (fun w hs => (fa39_0 (.tmp rfl rfl))) ?_
 refine q_yes (yl (dj:=123) (b:=false) rfl rfl (cVb (by rw [hc141]; rfl))) ?_
 refine q_st (v:=.agg #[.int .u64 ((m_cur.ID.N:Nat):Int),.int .i64 m_cur.ID.P]) (fun w hs => (ld34 (cs:=[.int .u64 ((m_cur.ID.N:Nat):Int),.int .i64 m_cur.ID.P]) (.tmp rfl rfl) (hs.at_ 2 rfl (0 + 2 + 0) rfl) rfl)) ?_
 refine q_yes (yl (dj:=123) (b:=false) rfl rfl (cVb (by rw [hc141]; rfl))) ?_
 refine q_st (v:=.pointer (some ⟨g38,0 + 2,none⟩)) (fun w hs => (fa51_2 (.tmp rfl hρ55))) ?_
 refine q_yes (yl (dj:=123) (b:=false) rfl rfl (cVb (by rw [hc141]; rfl))) ?_
 refine q_st (v:=.agg #[.int .u64 ((f.ID.N:Nat):Int),.int .i64 f.ID.P]) (fun w hs => (ld34 (cs:=[.int .u64 ((f.ID.N:Nat):Int),.int .i64 f.ID.P]) (.tmp rfl rfl) (hs.at_ 1 rfl (0 + 2) rfl) rfl)) ?_
 refine q_yes (yl (dj:=123) (b:=false) rfl rfl (cVb (by rw [hc141]; rfl))) ?_
 refine q_st (v:=.bool ((((m_cur.ID.N:Nat):Int) == ((f.ID.N:Nat):Int)) && ((m_cur.ID.P == f.ID.P) && true))) (fun w hs => (x_eqlA eqg34 (.tmp rfl rfl) (.tmp rfl rfl) (fun d => eqs34 (d + 98) _ ((m_cur.ID.N:Nat):Int) ((f.ID.N:Nat):Int) m_cur.ID.P f.ID.P))) ?_
 refine q_st (v:=.bool (decide (m_cur.ID = f.ID))) (fun w hs => (x_pick_f (.tmp rfl (cVb (by rw [hc141]; rfl))) (.tmp rfl (cVb (GViewID.beq_dec m_cur.ID f.ID))))) ?_
 exact jq_end ⟨(cVb (jor_f (by rw [hc141]; rfl))),hρ54,hρ55,True.intro⟩
 have hp141:¬ (f.ID = m_prom):=of_decide_eq_false hc141
 refine q_no (yl (dj:=123) (b:=true) rfl rfl (cVb (by rw [hc141]; rfl))) rfl ?_
 refine q_no (yl (dj:=123) (b:=true) rfl rfl (cVb (by rw [hc141]; rfl))) rfl ?_
 refine q_no (yl (dj:=123) (b:=true) rfl rfl (cVb (by rw [hc141]; rfl))) rfl ?_
 refine q_no (yl (dj:=123) (b:=true) rfl rfl (cVb (by rw [hc141]; rfl))) rfl ?_
 refine q_no (yl (dj:=123) (b:=true) rfl rfl (cVb (by rw [hc141]; rfl))) rfl ?_
 refine q_no (yl (dj:=123) (b:=true) rfl rfl (cVb (by rw [hc141]; rfl))) rfl ?_
 refine q_no (yl (dj:=123) (b:=true) rfl rfl (cVb (by rw [hc141]; rfl))) rfl ?_
 refine q_no (yl (dj:=123) (b:=true) rfl rfl (cVb (by rw [hc141]; rfl))) rfl ?_
 refine q_st (v:=.bool true) (fun w hs => (x_pick_t (.tmp rfl (cVb (by rw [hc141]; rfl))) .const)) ?_
 exact jq_end ⟨(cVb (jor_t (by rw [hc141]; rfl))),hρ54,hρ55,True.intro⟩
 rintro ρ ⟨hρ142,hρ143,hρ144,_⟩
 refine q_st (v:=.bool ((!(decide (f.ID = m_prom))) || (decide (m_cur.ID = f.ID)))) (fun w hs => (x_move (.tmp rfl hρ142))) ?_
 refine jq 9 (fun ρ => ρ 142 = .bool (((!(decide (f.ID = m_prom))) || (decide (m_cur.ID = f.ID))) || (!(has f.Set ((m_self:Nat):Int))))∧ρ 0 = .pointer (some ⟨g_m,0,none⟩)∧ρ 4 = .pointer (some ⟨g38,0,none⟩)∧True) ?_ ?_
 rcases Bool.eq_false_or_eq_true ((!(decide (f.ID = m_prom))) || (decide (m_cur.ID = f.ID))) with hc146 | hc146
 have hp146:(¬ (f.ID = m_prom)) ∨ (m_cur.ID = f.ID):=((J_or (J_not decide_eq_true_iff) decide_eq_true_iff)).1 hc146
 refine q_no (yk 133 true rfl rfl hc146) rfl ?_
 refine q_no (yk 133 true rfl rfl hc146) rfl ?_
 refine q_no (yk 133 true rfl rfl hc146) rfl ?_
 refine q_no (yk 133 true rfl rfl hc146) rfl ?_
 refine q_no (yk 133 true rfl rfl hc146) rfl ?_
 refine q_no (yk 133 true rfl rfl hc146) rfl ?_
 refine q_no (yk 133 true rfl rfl hc146) rfl ?_
 refine q_no (yk 133 true rfl rfl hc146) rfl ?_
 refine q_st (v:=.bool true) (fun w hs => (x_pick_t (.tmp rfl (cVb hc146)) .const)) ?_
 exact jq_end ⟨(cVb (jor_t hc146)),hρ143,hρ144,True.intro⟩
 have hp146:¬ ((¬ (f.ID = m_prom)) ∨ (m_cur.ID = f.ID)):=J_no (J_or (J_not decide_eq_true_iff) decide_eq_true_iff) hc146
 refine q_yes (yk 133 false rfl rfl hc146) ?_
 refine q_st (v:=.pointer (some ⟨g38,0 + 4,none⟩)) (fun w hs => (fa51_3 (.tmp rfl hρ144))) ?_
 refine q_yes (yk 133 false rfl rfl hc146) ?_
 refine q_st (v:=.int .u16 ((f.Set:Nat):Int)) (fun w hs => (ld31 (.tmp rfl rfl) (hs.cell 1 rfl (0 + 4) rfl))) ?_
 refine q_yes (yk 133 false rfl rfl hc146) ?_
 refine q_st (v:=.pointer (some ⟨g_m,0,none⟩)) (fun w hs => (x_move (.tmp rfl hρ143))) ?_
 refine q_yes (yk 133 false rfl rfl hc146) ?_
 refine q_st (v:=.pointer (some ⟨g_m,0,none⟩)) (fun w hs => (x_nilCheck (.tmp rfl rfl))) ?_
 refine q_yes (yk 133 false rfl rfl hc146) ?_
 refine q_st (v:=.pointer (some ⟨g_m,0 + 1,none⟩)) (fun w hs => (fa78_1 (.tmp rfl rfl))) ?_
 refine q_yes (yk 133 false rfl rfl hc146) ?_
 refine q_st (v:=.int .i64 ((m_self:Nat):Int)) (fun w hs => (ld3 (.tmp rfl rfl) (hs.cell 2 rfl (0 + 1) rfl))) ?_
 refine q_yes (yk 133 false rfl rfl hc146) ?_
 refine q_c (v:=.bool (has f.Set ((m_self:Nat):Int))) cb34 .func (evs2 (.tmp rfl rfl) (.tmp rfl rfl)) (fun w hs => has_spec hs f.Set ((m_self:Nat):Int) b7 (by omega)) ?_
 refine q_yes (yk 133 false rfl rfl hc146) ?_
 refine q_st (v:=.bool (!(has f.Set ((m_self:Nat):Int)))) (fun w hs => (x_not (.tmp rfl rfl))) ?_
 refine q_st (v:=.bool (!(has f.Set ((m_self:Nat):Int)))) (fun w hs => (x_pick_f (.tmp rfl (cVb hc146)) (.tmp rfl rfl))) ?_
 exact jq_end ⟨(cVb (jor_f hc146)),hρ143,hρ144,True.intro⟩
 rintro ρ ⟨hρ147,hρ148,hρ149,_⟩
 refine q_st (v:=.bool (((!(decide (f.ID = m_prom))) || (decide (m_cur.ID = f.ID))) || (!(has f.Set ((m_self:Nat):Int))))) (fun w hs => (x_move (.tmp rfl hρ147))) ?_
 refine jq 7 (fun ρ => ρ 150 = .bool ((((!(decide (f.ID = m_prom))) || (decide (m_cur.ID = f.ID))) || (!(has f.Set ((m_self:Nat):Int)))) || (decide ((f.ID.P:Int) ≠ f.From)))∧ρ 0 = .pointer (some ⟨g_m,0,none⟩)∧ρ 4 = .pointer (some ⟨g38,0,none⟩)∧True) ?_ ?_
 rcases Bool.eq_false_or_eq_true (((!(decide (f.ID = m_prom))) || (decide (m_cur.ID = f.ID))) || (!(has f.Set ((m_self:Nat):Int)))) with hc151 | hc151
 have hp151:((¬ (f.ID = m_prom)) ∨ (m_cur.ID = f.ID)) ∨ (¬ ((has f.Set ((m_self:Nat):Int)) = true)):=((J_or (J_or (J_not decide_eq_true_iff) decide_eq_true_iff) (J_not Iff.rfl))).1 hc151
 refine q_no (yk 143 true rfl rfl hc151) rfl ?_
 refine q_no (yk 143 true rfl rfl hc151) rfl ?_
 refine q_no (yk 143 true rfl rfl hc151) rfl ?_
 refine q_no (yk 143 true rfl rfl hc151) rfl ?_
 refine q_no (yk 143 true rfl rfl hc151) rfl ?_
 refine q_no (yk 143 true rfl rfl hc151) rfl ?_
 refine q_st (v:=.bool true) (fun w hs => (x_pick_t (.tmp rfl (cVb hc151)) .const)) ?_
 exact jq_end ⟨(cVb (jor_t hc151)),hρ148,hρ149,True.intro⟩
 have hp151:¬ (((¬ (f.ID = m_prom)) ∨ (m_cur.ID = f.ID)) ∨ (¬ ((has f.Set ((m_self:Nat):Int)) = true))):=J_no (J_or (J_or (J_not decide_eq_true_iff) decide_eq_true_iff) (J_not Iff.rfl)) hc151
 refine q_yes (yk 143 false rfl rfl hc151) ?_
 refine q_st (v:=.pointer (some ⟨g38,0 + 2,none⟩)) (fun w hs => (fa51_2 (.tmp rfl hρ149))) ?_
 refine q_yes (yk 143 false rfl rfl hc151) ?_
 refine q_st (v:=.pointer (some ⟨g38,0 + 2 + 1,none⟩)) (fun w hs => (fa34_1 (.tmp rfl rfl))) ?_
 refine q_yes (yk 143 false rfl rfl hc151) ?_
 refine q_st (v:=.int .i64 f.ID.P) (fun w hs => (ld3 (.tmp rfl rfl) (hs.cell 1 rfl (0 + 2 + 1) rfl))) ?_
 refine q_yes (yk 143 false rfl rfl hc151) ?_
 refine q_st (v:=.pointer (some ⟨g38,0 + 1,none⟩)) (fun w hs => (fa51_1 (.tmp rfl hρ149))) ?_
 refine q_yes (yk 143 false rfl rfl hc151) ?_
 refine q_st (v:=.int .i64 f.From) (fun w hs => (ld3 (.tmp rfl rfl) (hs.cell 1 rfl (0 + 1) rfl))) ?_
 refine q_yes (yk 143 false rfl rfl hc151) ?_
 refine q_st (v:=.bool (decide ((f.ID.P:Int) ≠ f.From))) (fun w hs => (x_neq (k:=.i64) (a:=f.ID.P) (b:=f.From) (.tmp rfl rfl) (.tmp rfl rfl))) ?_
 refine q_st (v:=.bool (decide ((f.ID.P:Int) ≠ f.From))) (fun w hs => (x_pick_f (.tmp rfl (cVb hc151)) (.tmp rfl rfl))) ?_
 exact jq_end ⟨(cVb (jor_f hc151)),hρ148,hρ149,True.intro⟩
 rintro ρ ⟨hρ152,hρ153,hρ154,_⟩
 refine q_nil ?_
 intro w hs156
 refine n_then ?_
 rcases Bool.eq_false_or_eq_true ((((!(decide (f.ID = m_prom))) || (decide (m_cur.ID = f.ID))) || (!(has f.Set ((m_self:Nat):Int)))) || (decide ((f.ID.P:Int) ≠ f.From))) with hc157 | hc157
 have hp157:(((¬ (f.ID = m_prom)) ∨ (m_cur.ID = f.ID)) ∨ (¬ ((has f.Set ((m_self:Nat):Int)) = true))) ∨ ((f.ID.P:Int) ≠ f.From):=((J_or (J_or (J_or (J_not decide_eq_true_iff) decide_eq_true_iff) (J_not Iff.rfl)) decide_eq_true_iff)).1 hc157
 refine c_cond_t (t:=true) (.tmp rfl (hρ152.trans (cVb hc157))) rfl ?_
 refine c_seq (c_region (st (v:=.slice none 0 0) (x_assign .const) ?_))
 refine st (v:=.pointer none) (x_assign .const) ?_
 refine st (v:=.int .i64 9) (x_assign .const) ?_
 refine c_nil (n_then (c_ret (r_then (r_block (r_then (leave_ret (res_three (v:=.slice none 0 0) (u:=.pointer none) (x:=.int .i64 9) rfl (.mk rfl rfl) (.mk rfl rfl) (.mk rfl rfl)) ?_))))))
 have hpq:(MB.inn (MB.mk m_n m_self m_cur m_prom m_high none m_jl m_os) f sx) = _:=inn_com_bad hc59 hc65 hc86 hc107 hc127 hc140 hc157
 rw [hpq]
 have hs158:=hs156.krowNil 53 kOut
 have okm160:MemB H m_n m_self m_cur m_prom m_high A_m jn_m jc_m m_jl m_os:=⟨hn1_m,hn16_m,hsf_m,⟨ok_m.cur.n,ok_m.cur.p⟩,ok_m.set,⟨ok_m.prom.n,ok_m.prom.p⟩,ok_m.high,ok_m.joined,ok_m.len,ok_m.oth⟩
 have hs161:=hs158.p3
 have hs162:St H _ (row 53 16 (.slice none 0 0) (([]:List GOut).length) []::obj g42 37 (clState sx A34 n35 c36)::obj g38 51 (clFrame f A14 n15 c16 A19 n20 c21 A23 n24 c25)::memR 78 81 37 g_m 0 A_m jn_m jc_m (.slice none 0 0) [] (MB.mk m_n m_self m_cur m_prom m_high none m_jl m_os) ++ (L)):=St.foldN (TP:=81) (TS:=37) (gp:=0) (sv:=(.slice none 0 0)) (sc:=[]) [row 53 16 (.slice none 0 0) (([]:List GOut).length) [],obj g42 37 (clState sx A34 n35 c36),obj g38 51 (clFrame f A14 n15 c16 A19 n20 c21 A23 n24 c25)] hs161
 exact ⟨H,(.slice none 0 0),[],(.pointer none),(MB.mk m_n m_self m_cur m_prom m_high none m_jl m_os),0,A_m,jn_m,jc_m,(.slice none 0 0),[],(Hp.le.refl _),rfl,(RowOk.knil kOut),(Kn.rows_nil _ _),InstAt.none',okm160.okN,rfl,((hs162.p1).drop.p1).drop⟩
 have hp157:¬ ((((¬ (f.ID = m_prom)) ∨ (m_cur.ID = f.ID)) ∨ (¬ ((has f.Set ((m_self:Nat):Int)) = true))) ∨ ((f.ID.P:Int) ≠ f.From)):=J_no (J_or (J_or (J_or (J_not decide_eq_true_iff) decide_eq_true_iff) (J_not Iff.rfl)) decide_eq_true_iff) hc157
 refine c_cond_f (t:=false) (.tmp rfl (hρ152.trans (cVb hc157))) rfl ?_
 refine c_skip (n_then (c_seq (c_region (st (v:=.pointer (some ⟨g_m,0,none⟩)) (x_move (.tmp rfl hρ153)) ?_))))
 refine st (v:=.pointer (some ⟨g38,0 + 2,none⟩)) (fa51_2 (.tmp rfl hρ154)) ?_
 refine st (v:=.agg #[.int .u64 ((f.ID.N:Nat):Int),.int .i64 f.ID.P]) (ld34 (cs:=[.int .u64 ((f.ID.N:Nat):Int),.int .i64 f.ID.P]) (.tmp rfl rfl) (hs156.at_ 1 rfl (0 + 2) rfl) rfl) ?_
 refine st (v:=.pointer (some ⟨g38,0 + 4,none⟩)) (fa51_3 (.tmp rfl hρ154)) ?_
 refine st (v:=.int .u16 ((f.Set:Nat):Int)) (ld31 (.tmp rfl rfl) (hs156.cell 1 rfl (0 + 4) rfl)) ?_
 refine st (v:=.agg #[.int .u64 ((f.ID.N:Nat):Int),.int .i64 f.ID.P,.int .u16 ((f.Set:Nat):Int)]) (bl39 (ps:=[(0,.agg #[.int .u64 ((f.ID.N:Nat):Int),.int .i64 f.ID.P]),(1,.int .u16 ((f.Set:Nat):Int))]) (.cons (.tmp rfl rfl) (.cons (.tmp rfl rfl) Evp.nil)) rfl) ?_
 refine st (v:=.pointer (some ⟨g_m,0,none⟩)) (x_nilCheck (.tmp rfl rfl)) ?_
 refine st (v:=.pointer (some ⟨g_m,0 + 2,none⟩)) (fa78_2 (.tmp rfl rfl)) ?_
 have hs163:=hs156.p2
 refine st_m0 (sto39 (cs':=((.int .i64 ((m_n:Nat):Int))::(.int .i64 ((m_self:Nat):Int))::(.int .u64 ((f.ID.N:Nat):Int))::(.int .i64 f.ID.P)::(.int .u16 ((f.Set:Nat):Int))::(.int .u64 ((m_prom.N:Nat):Int))::(.int .i64 m_prom.P)::(.int .u64 ((m_high:Nat):Int))::(.pointer none)::(.slice A_m jn_m jc_m)::oCells m_os)) (i:=0 + 2) hs163 (v:=.agg #[.int .u64 ((f.ID.N:Nat):Int),.int .i64 f.ID.P,.int .u16 ((f.Set:Nat):Int)]) (.tmp rfl rfl) (.tmp rfl rfl) rfl (Nat.le_of_ble_eq_true rfl) (oneA rfl) rfl) ?_
 rintro w164 hs166
 refine c_nil (n_then (c_seq (t_region (L:=obj g_m 78 ((.int .i64 ((m_n:Nat):Int))::(.int .i64 ((m_self:Nat):Int))::(.int .u64 ((f.ID.N:Nat):Int))::(.int .i64 f.ID.P)::(.int .u16 ((f.Set:Nat):Int))::(.int .u64 ((m_prom.N:Nat):Int))::(.int .i64 m_prom.P)::(.int .u64 ((m_high:Nat):Int))::(.pointer none)::(.slice A_m jn_m jc_m)::oCells m_os)::obj g42 37 (clState sx A34 n35 c36)::obj g38 51 (clFrame f A14 n15 c16 A19 n20 c21 A23 n24 c25)::L) (L':=obj g_m 78 ((.int .i64 ((m_n:Nat):Int))::(.int .i64 ((m_self:Nat):Int))::(.int .u64 ((f.ID.N:Nat):Int))::(.int .i64 f.ID.P)::(.int .u16 ((f.Set:Nat):Int))::(.int .u64 ((m_prom.N:Nat):Int))::(.int .i64 m_prom.P)::(.int .u64 ((m_high:Nat):Int))::(.pointer none)::(.slice A_m jn_m jc_m)::oCells m_os)::obj g42 37 (clState sx A34 n35 c36)::obj g38 51 (clFrame f A14 n15 c16 A19 n20 c21 A23 n24 c25)::L) (Z:=[]) (F:=[]) (pl:=(.q 0 (.q 1 (.q 2 (.q 3 (.q 4 (.q 5 (.q 6 (.q 8 (.e 7 (.q 9 (.q 10 .done)))))))))))) mixed hs166 (fun u hu => hu) (by kernel_rfl) ?_)))
 intro w167 hs168
 refine t_st (k:=0) (v:=.pointer (some ⟨g_m,0,none⟩)) rfl rfl (fun w hs => (x_move (.tmp rfl hρ153))) ?_
 refine t_st (k:=1) (v:=.pointer (some ⟨g_m,0,none⟩)) rfl rfl (fun w hs => (x_nilCheck (.tmp rfl rfl))) ?_
 refine t_st (k:=2) (v:=.pointer (some ⟨g_m,0 + 2,none⟩)) rfl rfl (fun w hs => (fa78_2 (.tmp rfl rfl))) ?_
 refine t_st (k:=3) (v:=.agg #[.int .u64 ((f.ID.N:Nat):Int),.int .i64 f.ID.P,.int .u16 ((f.Set:Nat):Int)]) rfl rfl (fun w hs => (ld39 (cs:=[.int .u64 ((f.ID.N:Nat):Int),.int .i64 f.ID.P,.int .u16 ((f.Set:Nat):Int)]) (.tmp rfl rfl) (hs.at_ 0 rfl (0 + 2) rfl) rfl)) ?_
 refine t_st (k:=4) (v:=.pointer (some ⟨g38,0 + 9,none⟩)) rfl rfl (fun w hs => (fa51_6 (.tmp rfl hρ154))) ?_
 refine t_st (k:=5) (v:=.slice A14 n15 c16) rfl rfl (fun w hs => (ld40 (.tmp rfl rfl) (hs.cell 2 rfl (0 + 9) rfl))) ?_
 refine t_st (k:=6) (v:=.agg #[.int .u64 ((f.ID.N:Nat):Int),.int .i64 f.ID.P,.int .u16 ((f.Set:Nat):Int),.slice A14 n15 c16]) rfl rfl (fun w hs => (bl42 (ps:=[(0,.agg #[.int .u64 ((f.ID.N:Nat):Int),.int .i64 f.ID.P,.int .u16 ((f.Set:Nat):Int)]),(1,.slice A14 n15 c16)]) (.cons (.tmp rfl rfl) (.cons (.tmp rfl rfl) Evp.nil)) rfl)) ?_
 refine t_st (k:=8) (v:=.slice none 0 0) rfl rfl (fun w hs => (x_assign .const)) ?_
 refine t_eff (k:=7) rfl ?_
 refine st_m (m_box (cs:=[.int .u64 ((f.ID.N:Nat):Int),.int .i64 f.ID.P,.int .u16 ((f.Set:Nat):Int),.slice A14 n15 c16]) hs168 (v:=.agg #[.int .u64 ((f.ID.N:Nat):Int),.int .i64 f.ID.P,.int .u16 ((f.Set:Nat):Int),.slice A14 n15 c16]) (.tmp rfl rfl) rfl) ?_
 rintro _ w170 ⟨g169,rfl,hs172⟩
 refine t_on (S':=fun u => St H u (obj g169 42 [.int .u64 ((f.ID.N:Nat):Int),.int .i64 f.ID.P,.int .u16 ((f.Set:Nat):Int),.slice A14 n15 c16]::obj g_m 78 ((.int .i64 ((m_n:Nat):Int))::(.int .i64 ((m_self:Nat):Int))::(.int .u64 ((f.ID.N:Nat):Int))::(.int .i64 f.ID.P)::(.int .u16 ((f.Set:Nat):Int))::(.int .u64 ((m_prom.N:Nat):Int))::(.int .i64 m_prom.P)::(.int .u64 ((m_high:Nat):Int))::(.pointer none)::(.slice A_m jn_m jc_m)::oCells m_os)::obj g42 37 (clState sx A34 n35 c36)::obj g38 51 (clFrame f A14 n15 c16 A19 n20 c21 A23 n24 c25)::L)) (fun u hu => hu.drop) hs172 ?_
 refine t_st (k:=9) (v:=.pointer (some ⟨g169,0,none⟩)) rfl rfl (fun w hs => (x_assign (.tmp rfl rfl))) ?_
 refine t_st (k:=10) (v:=.int .i64 0) rfl rfl (fun w hs => (x_assign .const)) ?_
 refine t_nil ?_
 refine n_then (c_ret (r_block (r_then (leave_ret (res_three (v:=.slice none 0 0) (u:=.pointer (some ⟨g169,0,none⟩)) (x:=.int .i64 0) rfl (.mk rfl rfl) (.mk rfl rfl) (.mk rfl rfl)) ?_))))
 have hr178:kInstall.rep H (GInstall.mk (GView.mk f.ID f.Set) f.States) [.int .u64 ((f.ID.N:Nat):Int),.int .i64 f.ID.P,.int .u16 ((f.Set:Nat):Int),.slice A14 n15 c16]:=⟨A14,n15,c16,rfl,b4,⟨b5,b6⟩,b7,hl17⟩
 obtain ⟨H173,hle174,hs175,rd176,hb177⟩:=hs172.freezeObj
 have hpq:(MB.inn (MB.mk m_n m_self m_cur m_prom m_high none m_jl m_os) f sx) = _:=inn_com_ok hc59 hc65 hc86 hc107 hc127 hc140 hc157
 rw [hpq]
 have hs179:=hs175.krowNil 53 kOut
 have okm181:MemB H173 m_n m_self (GView.mk f.ID f.Set) m_prom m_high A_m jn_m jc_m m_jl m_os:=⟨hn1_m,hn16_m,hsf_m,⟨b4,⟨b5,b6⟩⟩,b7,⟨ok_m.prom.n,ok_m.prom.p⟩,ok_m.high,(ok_m.joined.mono hle174),ok_m.len,ok_m.oth⟩
 have hs182:=hs179.p1
 have hs183:St H173 _ (row 53 16 (.slice none 0 0) (([]:List GOut).length) []::obj g42 37 (clState sx A34 n35 c36)::obj g38 51 (clFrame f A14 n15 c16 A19 n20 c21 A23 n24 c25)::memR 78 81 37 g_m 0 A_m jn_m jc_m (.slice none 0 0) [] (MB.mk m_n m_self (GView.mk f.ID f.Set) m_prom m_high none m_jl m_os) ++ (L)):=St.foldN (TP:=81) (TS:=37) (gp:=0) (sv:=(.slice none 0 0)) (sc:=[]) [row 53 16 (.slice none 0 0) (([]:List GOut).length) [],obj g42 37 (clState sx A34 n35 c36),obj g38 51 (clFrame f A14 n15 c16 A19 n20 c21 A23 n24 c25)] hs182
 exact ⟨H173,(.slice none 0 0),[],.pointer (some ⟨g169,0,none⟩),(MB.mk m_n m_self (GView.mk f.ID f.Set) m_prom m_high none m_jl m_os),0,A_m,jn_m,jc_m,(.slice none 0 0),[],hle174,rfl,(RowOk.knil kOut),(Kn.rows_nil _ _),(InstAt.some_of (y:=(GInstall.mk (GView.mk f.ID f.Set) f.States)) rfl rd176 (kInstall.mono hle174 hr178)),okm181.okN,rfl,((hs183.p1).drop.p1).drop⟩
 have hp140:¬ ((((f.Kind:Nat):Int):Int) = 5):=of_decide_eq_false hc140
 refine c_cond_f (t:=false) (.tmp rfl (cVb hc140)) rfl ?_
 refine c_skip (n_block (n_then (c_seq (c_region (st (v:=.slice none 0 0) (x_assign .const) ?_)))))
 refine st (v:=.pointer none) (x_assign .const) ?_
 refine st (v:=.int .i64 3) (x_assign .const) ?_
 refine c_nil (n_then (c_ret (leave_ret (res_three (v:=.slice none 0 0) (u:=.pointer none) (x:=.int .i64 3) rfl (.mk rfl rfl) (.mk rfl rfl) (.mk rfl rfl)) ?_)))
 have hpq:(MB.inn (MB.mk m_n m_self m_cur m_prom m_high none m_jl m_os) f sx) = _:=inn_form hc59 hc65 hc86 hc107 hc127 hc140
 rw [hpq]
 have hs184:=hs58.krowNil 53 kOut
 have okm186:MemB H m_n m_self m_cur m_prom m_high A_m jn_m jc_m m_jl m_os:=⟨hn1_m,hn16_m,hsf_m,⟨ok_m.cur.n,ok_m.cur.p⟩,ok_m.set,⟨ok_m.prom.n,ok_m.prom.p⟩,ok_m.high,ok_m.joined,ok_m.len,ok_m.oth⟩
 have hs187:=hs184.p3
 have hs188:St H _ (row 53 16 (.slice none 0 0) (([]:List GOut).length) []::obj g42 37 (clState sx A34 n35 c36)::obj g38 51 (clFrame f A14 n15 c16 A19 n20 c21 A23 n24 c25)::memR 78 81 37 g_m 0 A_m jn_m jc_m (.slice none 0 0) [] (MB.mk m_n m_self m_cur m_prom m_high none m_jl m_os) ++ (L)):=St.foldN (TP:=81) (TS:=37) (gp:=0) (sv:=(.slice none 0 0)) (sc:=[]) [row 53 16 (.slice none 0 0) (([]:List GOut).length) [],obj g42 37 (clState sx A34 n35 c36),obj g38 51 (clFrame f A14 n15 c16 A19 n20 c21 A23 n24 c25)] hs187
 exact ⟨H,(.slice none 0 0),[],(.pointer none),(MB.mk m_n m_self m_cur m_prom m_high none m_jl m_os),0,A_m,jn_m,jc_m,(.slice none 0 0),[],(Hp.le.refl _),rfl,(RowOk.knil kOut),(Kn.rows_nil _ _),InstAt.none',okm186.okN,rfl,((hs188.p1).drop.p1).drop⟩
set_option maxHeartbeats 8000000 in
theorem in_S {H:Hp} {w:World} {L:List Res} {g_m m_n m_self m_high:Nat} {m_cur:GView} {m_prom:GViewID} {m_jl:List GState} {m_os:List (GViewID × GViewID)} {A_m:Option Addr} {jn_m jc_m:Nat} {gp_m:Nat} {p_m:GProp} {sv_m:Value} {sc_m:List Value} (hs:St H w (obj g_m 78 ((.int .i64 ((m_n:Nat):Int))::(.int .i64 ((m_self:Nat):Int))::(.int .u64 ((m_cur.ID.N:Nat):Int))::(.int .i64 m_cur.ID.P)::(.int .u16 ((m_cur.Set:Nat):Int))::(.int .u64 ((m_prom.N:Nat):Int))::(.int .i64 m_prom.P)::(.int .u64 ((m_high:Nat):Int))::(.pointer (some ⟨gp_m,0,none⟩))::(.slice A_m jn_m jc_m)::oCells m_os)::obj gp_m 81 (clProp p_m sv_m)::row 37 4 sv_m p_m.states.length sc_m::L)) (ok_m:MemB H m_n m_self m_cur m_prom m_high A_m jn_m jc_m m_jl m_os) (hk_m:PropOk H p_m sv_m sc_m) (f:GFrame) {k_f:List Value} (h_f:kFrame.rep H f k_f) (sx:GState) {k_sx:List Value} (h_sx:kState.rep H sx k_sx) (hpl:p_m.states.length ≤ 900000) (hb:∀ s ∈ p_m.states,0 ≤ s.Floor∧s.Floor ≤ 1073741824) (hbf:∀ s ∈ f.States,0 ≤ s.Floor∧s.Floor ≤ 1073741824) (htab:Tab H):Calls Tryd.prog 17 #[.pointer (some ⟨g_m,0,none⟩),.agg k_f.toArray,.agg k_sx.toArray] w (fun e w' => ∃ (H':Hp) (v0:Value) (cs0:List Value) (iv1:Value) (m':MB) (gp_m':Nat) (A_m':Option Addr) (jn_m' jc_m':Nat) (sv_m':Value) (sc_m':List Value),H.le H'∧e = .returned (.tuple #[v0,iv1,.int .i64 ((MB.inn (MB.mk m_n m_self m_cur m_prom m_high (some p_m) m_jl m_os) f sx).2.2.2)])∧RowOk kOut.sz v0 ((MB.inn (MB.mk m_n m_self m_cur m_prom m_high (some p_m) m_jl m_os) f sx).2.1).length cs0∧kOut.toKn.rows H' ((MB.inn (MB.mk m_n m_self m_cur m_prom m_high (some p_m) m_jl m_os) f sx).2.1) cs0∧InstAt H' ((MB.inn (MB.mk m_n m_self m_cur m_prom m_high (some p_m) m_jl m_os) f sx).2.2.1) iv1∧MemOk H' m' A_m' jn_m' jc_m' sv_m' sc_m'∧m' = (MB.inn (MB.mk m_n m_self m_cur m_prom m_high (some p_m) m_jl m_os) f sx).1∧St H' w' (row 53 kOut.sz v0 ((MB.inn (MB.mk m_n m_self m_cur m_prom m_high (some p_m) m_jl m_os) f sx).2.1).length cs0::memR 78 81 37 g_m gp_m' A_m' jn_m' jc_m' sv_m' sc_m' m' ++ (L))):=by
 have hn1_m:1 ≤ m_n:=ok_m.n1
 have hn16_m:m_n ≤ 16:=ok_m.n16
 have hsf_m:m_self < m_n:=ok_m.self
 have hol_m:m_os.length = 16:=ok_m.len
 have hhi_m:m_high < 18446744073709551616:=ok_m.high
 obtain ⟨A14,n15,c16,A19,n20,c21,A23,n24,c25,rfl,b1,⟨b2,b3⟩,b4,⟨b5,b6⟩,b7,b8,⟨b9,b10⟩,b11,⟨b12,b13⟩,hl17,b18,hl22,hl26,b27,b28⟩:=h_f
 have:=hl17.len; have:n15 * 48 ≤ 140737488351232:=hl17.bnd; have:=hl17.le
 have:=hl22.len; have:n20 * 24 ≤ 140737488351232:=hl22.bnd; have:=hl22.le
 have:=hl26.len; have:n24 * 32 ≤ 140737488351232:=hl26.bnd; have:=hl26.le
 obtain ⟨A34,n35,c36,rfl,b29,⟨b30,b31⟩,⟨b32,b33⟩,hl37⟩:=h_sx
 have:=hl37.len; have:n35 * 32 ≤ 140737488351232:=hl37.bnd; have:=hl37.le
 refine enter (args:=[.pointer (some ⟨g_m,0,none⟩),.agg #[.int .u8 ((f.Kind:Nat):Int),.int .i64 f.From,.int .u64 ((f.ID.N:Nat):Int),.int .i64 f.ID.P,.int .u16 ((f.Set:Nat):Int),.int .u64 ((f.Cur.N:Nat):Int),.int .i64 f.Cur.P,.int .u64 ((f.Prom.N:Nat):Int),.int .i64 f.Prom.P,.slice A14 n15 c16,.int .u64 ((f.Base:Nat):Int),.slice A19 n20 c21,.slice A23 n24 c25,.int .u64 ((f.Ack:Nat):Int),.int .u64 ((f.Safe:Nat):Int)],.agg #[.int .u64 ((sx.V.N:Nat):Int),.int .i64 sx.V.P,.int .i64 sx.Floor,.slice A34 n35 c36]]) (N:=167) Tryd.func17 rfl rfl rfl ?_
 refine c_seq (c_region (st_m (m_box (cs:=[.int .u8 ((f.Kind:Nat):Int),.int .i64 f.From,.int .u64 ((f.ID.N:Nat):Int),.int .i64 f.ID.P,.int .u16 ((f.Set:Nat):Int),.int .u64 ((f.Cur.N:Nat):Int),.int .i64 f.Cur.P,.int .u64 ((f.Prom.N:Nat):Int),.int .i64 f.Prom.P,.slice A14 n15 c16,.int .u64 ((f.Base:Nat):Int),.slice A19 n20 c21,.slice A23 n24 c25,.int .u64 ((f.Ack:Nat):Int),.int .u64 ((f.Safe:Nat):Int)]) hs (v:=.agg #[.int .u8 ((f.Kind:Nat):Int),.int .i64 f.From,.int .u64 ((f.ID.N:Nat):Int),.int .i64 f.ID.P,.int .u16 ((f.Set:Nat):Int),.int .u64 ((f.Cur.N:Nat):Int),.int .i64 f.Cur.P,.int .u64 ((f.Prom.N:Nat):Int),.int .i64 f.Prom.P,.slice A14 n15 c16,.int .u64 ((f.Base:Nat):Int),.slice A19 n20 c21,.slice A23 n24 c25,.int .u64 ((f.Ack:Nat):Int),.int .u64 ((f.Safe:Nat):Int)]) (.tmp rfl rfl) rfl) ?_))
 rintro _ w39 ⟨g38,rfl,hs41⟩
 refine st_m (m_box (cs:=[.int .u64 ((sx.V.N:Nat):Int),.int .i64 sx.V.P,.int .i64 sx.Floor,.slice A34 n35 c36]) hs41 (v:=.agg #[.int .u64 ((sx.V.N:Nat):Int),.int .i64 sx.V.P,.int .i64 sx.Floor,.slice A34 n35 c36]) (.tmp rfl rfl) rfl) ?_
 rintro _ w43 ⟨g42,rfl,hs45⟩
 refine st (v:=.slice none 0 0) (x_assign .const) ?_
 refine st (v:=.pointer none) (x_assign .const) ?_
 refine st (v:=.int .i64 0) (x_assign .const) ?_
 refine c_nil (n_then (c_seq (c_block (c_seq (c_region (st (v:=.pointer (some ⟨g_m,0,none⟩)) (x_move (.tmp rfl rfl)) ?_))))))
 refine st (v:=.bool false) (x_eqlP Tryd.underlying23 (.tmp rfl rfl) .const rfl) ?_
 refine st (v:=.bool false) (x_assign (.tmp rfl rfl)) ?_
 refine c_nil (n_then (c_cond_f (t:=false) (.tmp rfl rfl) rfl ?_))
 refine c_seq (q_region mixed hs45 (by kernel_rfl) ?_)
 refine q_st (v:=.pointer (some ⟨g38,0 + 1,none⟩)) (fun w hs => (fa51_1 (.tmp rfl rfl))) ?_
 refine q_st (v:=.int .i64 f.From) (fun w hs => (ld3 (.tmp rfl rfl) (hs.cell 1 rfl (0 + 1) rfl))) ?_
 refine q_st (v:=.bool (decide ((f.From:Int) < 0))) (fun w hs => (x_lss (k:=.i64) (a:=f.From) (b:=0) (.tmp rfl rfl) .const)) ?_
 refine q_st (v:=.bool (decide ((f.From:Int) < 0))) (fun w hs => (x_move (.tmp rfl rfl))) ?_
 refine jq 8 (fun ρ => ρ 25 = .bool ((decide ((f.From:Int) < 0)) || (decide ((((m_n:Nat):Int):Int) ≤ f.From)))∧ρ 0 = .pointer (some ⟨g_m,0,none⟩)∧ρ 4 = .pointer (some ⟨g38,0,none⟩)∧ρ 5 = .pointer (some ⟨g42,0,none⟩)∧True) ?_ ?_
 rcases Bool.eq_false_or_eq_true (decide ((f.From:Int) < 0)) with hc46 | hc46
 have hp46:(f.From:Int) < 0:=of_decide_eq_true hc46
 refine q_no (yk 17 true rfl rfl hc46) rfl ?_
 refine q_no (yk 17 true rfl rfl hc46) rfl ?_
 refine q_no (yk 17 true rfl rfl hc46) rfl ?_
 refine q_no (yk 17 true rfl rfl hc46) rfl ?_
 refine q_no (yk 17 true rfl rfl hc46) rfl ?_
 refine q_no (yk 17 true rfl rfl hc46) rfl ?_
 refine q_no (yk 17 true rfl rfl hc46) rfl ?_
 refine q_st (v:=.bool true) (fun w hs => (x_pick_t (.tmp rfl (cVb hc46)) .const)) ?_
 exact jq_end ⟨(cVb (jor_t hc46)),rfl,rfl,rfl,True.intro⟩
 have hp46:¬ ((f.From:Int) < 0):=of_decide_eq_false hc46
 refine q_yes (yk 17 false rfl rfl hc46) ?_
 refine q_st (v:=.pointer (some ⟨g38,0 + 1,none⟩)) (fun w hs => (fa51_1 (.tmp rfl rfl))) ?_
 refine q_yes (yk 17 false rfl rfl hc46) ?_
 refine q_st (v:=.int .i64 f.From) (fun w hs => (ld3 (.tmp rfl rfl) (hs.cell 1 rfl (0 + 1) rfl))) ?_
 refine q_yes (yk 17 false rfl rfl hc46) ?_
 refine q_st (v:=.pointer (some ⟨g_m,0,none⟩)) (fun w hs => (x_move (.tmp rfl rfl))) ?_
 refine q_yes (yk 17 false rfl rfl hc46) ?_
 refine q_st (v:=.pointer (some ⟨g_m,0,none⟩)) (fun w hs => (x_nilCheck (.tmp rfl rfl))) ?_
 refine q_yes (yk 17 false rfl rfl hc46) ?_
 refine q_st (v:=.pointer (some ⟨g_m,0 + 0,none⟩)) (fun w hs => (fa78_0 (.tmp rfl rfl))) ?_
 refine q_yes (yk 17 false rfl rfl hc46) ?_
 refine q_st (v:=.int .i64 ((m_n:Nat):Int)) (fun w hs => (ld3 (.tmp rfl rfl) (hs.cell 2 rfl (0 + 0) rfl))) ?_
 refine q_yes (yk 17 false rfl rfl hc46) ?_
 refine q_st (v:=.bool (decide ((((m_n:Nat):Int):Int) ≤ f.From))) (fun w hs => (x_geq (k:=.i64) (a:=f.From) (b:=((m_n:Nat):Int)) (.tmp rfl rfl) (.tmp rfl rfl))) ?_
 refine q_st (v:=.bool (decide ((((m_n:Nat):Int):Int) ≤ f.From))) (fun w hs => (x_pick_f (.tmp rfl (cVb hc46)) (.tmp rfl rfl))) ?_
 exact jq_end ⟨(cVb (jor_f hc46)),rfl,rfl,rfl,True.intro⟩
 rintro ρ ⟨hρ47,hρ48,hρ49,hρ50,_⟩
 refine q_st (v:=.bool ((decide ((f.From:Int) < 0)) || (decide ((((m_n:Nat):Int):Int) ≤ f.From)))) (fun w hs => (x_move (.tmp rfl hρ47))) ?_
 refine jq 8 (fun ρ => ρ 34 = .bool (((decide ((f.From:Int) < 0)) || (decide ((((m_n:Nat):Int):Int) ≤ f.From))) || (decide ((f.From:Int) = ((m_self:Nat):Int))))∧ρ 0 = .pointer (some ⟨g_m,0,none⟩)∧ρ 4 = .pointer (some ⟨g38,0,none⟩)∧ρ 5 = .pointer (some ⟨g42,0,none⟩)∧True) ?_ ?_
 rcases Bool.eq_false_or_eq_true ((decide ((f.From:Int) < 0)) || (decide ((((m_n:Nat):Int):Int) ≤ f.From))) with hc52 | hc52
 have hp52:((f.From:Int) < 0) ∨ ((((m_n:Nat):Int):Int) ≤ f.From):=((J_or decide_eq_true_iff decide_eq_true_iff)).1 hc52
 refine q_no (yk 26 true rfl rfl hc52) rfl ?_
 refine q_no (yk 26 true rfl rfl hc52) rfl ?_
 refine q_no (yk 26 true rfl rfl hc52) rfl ?_
 refine q_no (yk 26 true rfl rfl hc52) rfl ?_
 refine q_no (yk 26 true rfl rfl hc52) rfl ?_
 refine q_no (yk 26 true rfl rfl hc52) rfl ?_
 refine q_no (yk 26 true rfl rfl hc52) rfl ?_
 refine q_st (v:=.bool true) (fun w hs => (x_pick_t (.tmp rfl (cVb hc52)) .const)) ?_
 exact jq_end ⟨(cVb (jor_t hc52)),hρ48,hρ49,hρ50,True.intro⟩
 have hp52:¬ (((f.From:Int) < 0) ∨ ((((m_n:Nat):Int):Int) ≤ f.From)):=J_no (J_or decide_eq_true_iff decide_eq_true_iff) hc52
 refine q_yes (yk 26 false rfl rfl hc52) ?_
 refine q_st (v:=.pointer (some ⟨g38,0 + 1,none⟩)) (fun w hs => (fa51_1 (.tmp rfl hρ49))) ?_
 refine q_yes (yk 26 false rfl rfl hc52) ?_
 refine q_st (v:=.int .i64 f.From) (fun w hs => (ld3 (.tmp rfl rfl) (hs.cell 1 rfl (0 + 1) rfl))) ?_
 refine q_yes (yk 26 false rfl rfl hc52) ?_
 refine q_st (v:=.pointer (some ⟨g_m,0,none⟩)) (fun w hs => (x_move (.tmp rfl hρ48))) ?_
 refine q_yes (yk 26 false rfl rfl hc52) ?_
 refine q_st (v:=.pointer (some ⟨g_m,0,none⟩)) (fun w hs => (x_nilCheck (.tmp rfl rfl))) ?_
 refine q_yes (yk 26 false rfl rfl hc52) ?_
 refine q_st (v:=.pointer (some ⟨g_m,0 + 1,none⟩)) (fun w hs => (fa78_1 (.tmp rfl rfl))) ?_
 refine q_yes (yk 26 false rfl rfl hc52) ?_
 refine q_st (v:=.int .i64 ((m_self:Nat):Int)) (fun w hs => (ld3 (.tmp rfl rfl) (hs.cell 2 rfl (0 + 1) rfl))) ?_
 refine q_yes (yk 26 false rfl rfl hc52) ?_
 refine q_st (v:=.bool (decide ((f.From:Int) = ((m_self:Nat):Int)))) (fun w hs => (x_eql (k:=.i64) (a:=f.From) (b:=((m_self:Nat):Int)) (.tmp rfl rfl) (.tmp rfl rfl))) ?_
 refine q_st (v:=.bool (decide ((f.From:Int) = ((m_self:Nat):Int)))) (fun w hs => (x_pick_f (.tmp rfl (cVb hc52)) (.tmp rfl rfl))) ?_
 exact jq_end ⟨(cVb (jor_f hc52)),hρ48,hρ49,hρ50,True.intro⟩
 rintro ρ ⟨hρ53,hρ54,hρ55,hρ56,_⟩
 refine q_st (v:=.bool (((decide ((f.From:Int) < 0)) || (decide ((((m_n:Nat):Int):Int) ≤ f.From))) || (decide ((f.From:Int) = ((m_self:Nat):Int))))) (fun w hs => (x_assign (.tmp rfl hρ53))) ?_
 refine q_nil ?_
 intro w hs58
 refine n_then ?_
 rcases Bool.eq_false_or_eq_true (((decide ((f.From:Int) < 0)) || (decide ((((m_n:Nat):Int):Int) ≤ f.From))) || (decide ((f.From:Int) = ((m_self:Nat):Int)))) with hc59 | hc59
 have hp59:(((f.From:Int) < 0) ∨ ((((m_n:Nat):Int):Int) ≤ f.From)) ∨ ((f.From:Int) = ((m_self:Nat):Int)):=((J_or (J_or decide_eq_true_iff decide_eq_true_iff) decide_eq_true_iff)).1 hc59
 refine c_cond_t (t:=true) (.tmp rfl (cVb hc59)) rfl ?_
 refine c_seq (c_region (st (v:=.slice none 0 0) (x_assign .const) ?_))
 refine st (v:=.pointer none) (x_assign .const) ?_
 refine st (v:=.int .i64 1) (x_assign .const) ?_
 refine c_nil (n_then (c_ret (r_block (r_then (leave_ret (res_three (v:=.slice none 0 0) (u:=.pointer none) (x:=.int .i64 1) rfl (.mk rfl rfl) (.mk rfl rfl) (.mk rfl rfl)) ?_)))))
 have hpq:(MB.inn (MB.mk m_n m_self m_cur m_prom m_high (some p_m) m_jl m_os) f sx) = _:=inn_arg hc59
 rw [hpq]
 have hs60:=hs58.krowNil 53 kOut
 have okm62:MemB H m_n m_self m_cur m_prom m_high A_m jn_m jc_m m_jl m_os:=⟨hn1_m,hn16_m,hsf_m,⟨ok_m.cur.n,ok_m.cur.p⟩,ok_m.set,⟨ok_m.prom.n,ok_m.prom.p⟩,ok_m.high,ok_m.joined,ok_m.len,ok_m.oth⟩
 have hs63:=hs60.p5
 have hs64:=hs63.p5
 have okp65:PropOk H p_m sv_m sc_m:=⟨⟨hk_m.id.n,hk_m.id.p⟩,hk_m.set,hk_m.who,hk_m.ok,hk_m.hk⟩
 have hs66:=hs64.p5
 have hs67:St H _ (row 53 16 (.slice none 0 0) (([]:List GOut).length) []::obj g42 37 (clState sx A34 n35 c36)::obj g38 51 (clFrame f A14 n15 c16 A19 n20 c21 A23 n24 c25)::memR 78 81 37 g_m gp_m A_m jn_m jc_m sv_m sc_m (MB.mk m_n m_self m_cur m_prom m_high (some p_m) m_jl m_os) ++ (L)):=St.foldS (TP:=81) (TS:=37) (gp:=gp_m) (sv:=sv_m) (sc:=sc_m) [row 53 16 (.slice none 0 0) (([]:List GOut).length) [],obj g42 37 (clState sx A34 n35 c36),obj g38 51 (clFrame f A14 n15 c16 A19 n20 c21 A23 n24 c25)] hs66
 exact ⟨H,(.slice none 0 0),[],(.pointer none),(MB.mk m_n m_self m_cur m_prom m_high (some p_m) m_jl m_os),gp_m,A_m,jn_m,jc_m,sv_m,sc_m,(Hp.le.refl _),rfl,(RowOk.knil kOut),(Kn.rows_nil _ _),InstAt.none',(okm62.okS okp65),rfl,((hs67.p1).drop.p1).drop⟩
 have hp59:¬ ((((f.From:Int) < 0) ∨ ((((m_n:Nat):Int):Int) ≤ f.From)) ∨ ((f.From:Int) = ((m_self:Nat):Int))):=J_no (J_or (J_or decide_eq_true_iff decide_eq_true_iff) decide_eq_true_iff) hc59
 refine c_cond_f (t:=false) (.tmp rfl (cVb hc59)) rfl ?_
 refine c_skip (n_block (n_then (c_seq (c_seq (c_region (st (v:=.pointer (some ⟨g38,0 + 0,none⟩)) (fa51_0 (.tmp rfl hρ55)) ?_))))))
 refine st (v:=.int .u8 ((f.Kind:Nat):Int)) (ld5 (.tmp rfl rfl) (hs58.cell 1 rfl (0 + 0) rfl)) ?_
 refine c_nil (n_then (c_block (c_seq (c_region (st (v:=.bool (decide ((((f.Kind:Nat):Int):Int) = 1))) (x_eql (k:=.u8) (a:=((f.Kind:Nat):Int)) (b:=1) (.tmp rfl rfl) .const) ?_)))))
 refine st (v:=.bool (decide ((((f.Kind:Nat):Int):Int) = 1))) (x_assign (.tmp rfl rfl)) ?_
 refine c_nil (n_then ?_)
 rcases Bool.eq_false_or_eq_true (decide ((((f.Kind:Nat):Int):Int) = 1)) with hc68 | hc68
 have hp68:(((f.Kind:Nat):Int):Int) = 1:=of_decide_eq_true hc68
 refine c_cond_t (t:=true) (.tmp rfl (cVb hc68)) rfl ?_
 refine c_seq (t_region (L:=obj g42 37 (clState sx A34 n35 c36)::obj g38 51 (clFrame f A14 n15 c16 A19 n20 c21 A23 n24 c25)::obj g_m 78 ((.int .i64 ((m_n:Nat):Int))::(.int .i64 ((m_self:Nat):Int))::(.int .u64 ((m_cur.ID.N:Nat):Int))::(.int .i64 m_cur.ID.P)::(.int .u16 ((m_cur.Set:Nat):Int))::(.int .u64 ((m_prom.N:Nat):Int))::(.int .i64 m_prom.P)::(.int .u64 ((m_high:Nat):Int))::(.pointer (some ⟨gp_m,0,none⟩))::(.slice A_m jn_m jc_m)::oCells m_os)::obj gp_m 81 (clProp p_m sv_m)::row 37 4 sv_m p_m.states.length sc_m::L) (L':=obj g42 37 (clState sx A34 n35 c36)::obj g38 51 (clFrame f A14 n15 c16 A19 n20 c21 A23 n24 c25)::obj g_m 78 ((.int .i64 ((m_n:Nat):Int))::(.int .i64 ((m_self:Nat):Int))::(.int .u64 ((m_cur.ID.N:Nat):Int))::(.int .i64 m_cur.ID.P)::(.int .u16 ((m_cur.Set:Nat):Int))::(.int .u64 ((m_prom.N:Nat):Int))::(.int .i64 m_prom.P)::(.int .u64 ((m_high:Nat):Int))::(.pointer (some ⟨gp_m,0,none⟩))::(.slice A_m jn_m jc_m)::oCells m_os)::obj gp_m 81 (clProp p_m sv_m)::row 37 4 sv_m p_m.states.length sc_m::L) (Z:=[11]) (F:=[]) (pl:=(.q 0 (.q 1 (.q 2 (.q 3 (.q 4 (.q 5 (.q 6 (.q 7 (.q 8 (.q 9 (.q 10 (.e 11 .done))))))))))))) mixed hs58 (fun u hu => hu) (by kernel_rfl) ?_)
 intro w69 hs70
 refine t_st (k:=0) (v:=.pointer (some ⟨g_m,0,none⟩)) rfl rfl (fun w hs => (x_move (.tmp rfl hρ54))) ?_
 refine t_st (k:=1) (v:=.pointer (some ⟨g38,0 + 1,none⟩)) rfl rfl (fun w hs => (fa51_1 (.tmp rfl hρ55))) ?_
 refine t_st (k:=2) (v:=.int .i64 f.From) rfl rfl (fun w hs => (ld3 (.tmp rfl rfl) (hs.cell 1 rfl (0 + 1) rfl))) ?_
 refine t_st (k:=3) (v:=.pointer (some ⟨g38,0 + 5,none⟩)) rfl rfl (fun w hs => (fa51_4 (.tmp rfl hρ55))) ?_
 refine t_st (k:=4) (v:=.agg #[.int .u64 ((f.Cur.N:Nat):Int),.int .i64 f.Cur.P]) rfl rfl (fun w hs => (ld34 (cs:=[.int .u64 ((f.Cur.N:Nat):Int),.int .i64 f.Cur.P]) (.tmp rfl rfl) (hs.at_ 1 rfl (0 + 5) rfl) rfl)) ?_
 refine t_st (k:=5) (v:=.pointer (some ⟨g38,0 + 7,none⟩)) rfl rfl (fun w hs => (fa51_5 (.tmp rfl hρ55))) ?_
 refine t_st (k:=6) (v:=.agg #[.int .u64 ((f.Prom.N:Nat):Int),.int .i64 f.Prom.P]) rfl rfl (fun w hs => (ld34 (cs:=[.int .u64 ((f.Prom.N:Nat):Int),.int .i64 f.Prom.P]) (.tmp rfl rfl) (hs.at_ 1 rfl (0 + 7) rfl) rfl)) ?_
 refine t_st (k:=7) (v:=.agg #[.int .u8 0,.int .i64 0,.int .u64 0,.int .i64 0,.int .u16 0,.int .u64 ((f.Cur.N:Nat):Int),.int .i64 f.Cur.P,.int .u64 ((f.Prom.N:Nat):Int),.int .i64 f.Prom.P,.slice none 0 0,.int .u64 0,.slice none 0 0,.slice none 0 0,.int .u64 0,.int .u64 0]) rfl rfl (fun w hs => (bl51 (ps:=[(4,.agg #[.int .u64 ((f.Cur.N:Nat):Int),.int .i64 f.Cur.P]),(5,.agg #[.int .u64 ((f.Prom.N:Nat):Int),.int .i64 f.Prom.P])]) (.cons (.tmp rfl rfl) (.cons (.tmp rfl rfl) Evp.nil)) rfl)) ?_
 refine t_st (k:=8) (v:=.pointer (some ⟨g_m,0,none⟩)) rfl rfl (fun w hs => (x_nilCheck (.tmp rfl rfl))) ?_
 refine t_st (k:=9) (v:=.pointer (some ⟨g_m,0 + 10,none⟩)) rfl rfl (fun w hs => (fa78_7 (.tmp rfl rfl))) ?_
 refine t_st (k:=10) (v:=.pointer (some ⟨g_m,(10 + f.From.toNat * 15),none⟩)) rfl rfl (fun w hs => (ixo76 (.tmp rfl rfl) (i:=f.From) (.tmp rfl rfl) (by omega) (by omega) (by omega))) ?_
 refine t_eff (k:=11) rfl ?_
 have hs71:=hs70.p2
 refine st_m0 (sto51 (cs':=((.int .i64 ((m_n:Nat):Int))::(.int .i64 ((m_self:Nat):Int))::(.int .u64 ((m_cur.ID.N:Nat):Int))::(.int .i64 m_cur.ID.P)::(.int .u16 ((m_cur.Set:Nat):Int))::(.int .u64 ((m_prom.N:Nat):Int))::(.int .i64 m_prom.P)::(.int .u64 ((m_high:Nat):Int))::(.pointer (some ⟨gp_m,0,none⟩))::(.slice A_m jn_m jc_m)::oCells (m_os.set f.From.toNat (f.Cur,f.Prom)))) (i:=10 + f.From.toNat * 15) hs71 (v:=.agg #[.int .u8 0,.int .i64 0,.int .u64 0,.int .i64 0,.int .u16 0,.int .u64 ((f.Cur.N:Nat):Int),.int .i64 f.Cur.P,.int .u64 ((f.Prom.N:Nat):Int),.int .i64 f.Prom.P,.slice none 0 0,.int .u64 0,.slice none 0 0,.slice none 0 0,.int .u64 0,.int .u64 0]) (.tmp rfl rfl) (.tmp rfl rfl) rfl (by rw [mem_len10 ok_m.len]; omega) (oneA rfl) (oth_set (x:=(f.Cur,f.Prom)) ok_m.len (by omega))) ?_
 rintro w72 hs73
 refine t_new (S':=fun u => St H u (obj g_m 78 ((.int .i64 ((m_n:Nat):Int))::(.int .i64 ((m_self:Nat):Int))::(.int .u64 ((m_cur.ID.N:Nat):Int))::(.int .i64 m_cur.ID.P)::(.int .u16 ((m_cur.Set:Nat):Int))::(.int .u64 ((m_prom.N:Nat):Int))::(.int .i64 m_prom.P)::(.int .u64 ((m_high:Nat):Int))::(.pointer (some ⟨gp_m,0,none⟩))::(.slice A_m jn_m jc_m)::oCells (m_os.set f.From.toNat (f.Cur,f.Prom)))::obj g42 37 (clState sx A34 n35 c36)::obj g38 51 (clFrame f A14 n15 c16 A19 n20 c21 A23 n24 c25)::obj gp_m 81 (clProp p_m sv_m)::row 37 4 sv_m p_m.states.length sc_m::L)) rfl hs73 ?_
 refine t_nil ?_
 refine n_then (c_seq (c_region (st (v:=.pointer (some ⟨g_m,0,none⟩)) (x_move (.tmp rfl hρ54)) ?_)))
 refine st (v:=.pointer (some ⟨g38,0 + 5,none⟩)) (fa51_4 (.tmp rfl hρ55)) ?_
 refine st (v:=.agg #[.int .u64 ((f.Cur.N:Nat):Int),.int .i64 f.Cur.P]) (ld34 (cs:=[.int .u64 ((f.Cur.N:Nat):Int),.int .i64 f.Cur.P]) (.tmp rfl rfl) (hs73.at_ 2 rfl (0 + 5) rfl) rfl) ?_
 have okm74:MemB H m_n m_self m_cur m_prom m_high A_m jn_m jc_m m_jl (m_os.set f.From.toNat (f.Cur,f.Prom)):=⟨hn1_m,hn16_m,hsf_m,⟨ok_m.cur.n,ok_m.cur.p⟩,ok_m.set,⟨ok_m.prom.n,ok_m.prom.p⟩,ok_m.high,ok_m.joined,(by rw [List.length_set]; exact ok_m.len),(oth_set_ok (x:=(f.Cur,f.Prom)) ok_m.oth ⟨⟨b8,⟨b9,b10⟩⟩,⟨b11,⟨b12,b13⟩⟩⟩)⟩
 have hr75:kViewID.rep H f.Cur [.int .u64 ((f.Cur.N:Nat):Int),.int .i64 f.Cur.P]:=⟨rfl,b8,⟨b9,b10⟩⟩
 refine st_c cb30 .func (evs2 (.tmp rfl rfl) (.tmp rfl rfl)) (hear_X hs73 (m_prop:=(some p_m)) (m_n:=m_n) (m_self:=m_self) (m_cur:=m_cur) (m_prom:=m_prom) (m_high:=m_high) (m_jl:=m_jl) (m_os:=(m_os.set f.From.toNat (f.Cur,f.Prom))) okm74 f.Cur hr75 ) ?_
 rintro e w76 ⟨rfl,okm78,hs77⟩
 refine ⟨_,rfl,?_⟩
 refine c_nil (n_then (c_seq (c_region (st (v:=.pointer (some ⟨g_m,0,none⟩)) (x_move (.tmp rfl hρ54)) ?_))))
 refine st (v:=.pointer (some ⟨g38,0 + 7,none⟩)) (fa51_5 (.tmp rfl hρ55)) ?_
 refine st (v:=.agg #[.int .u64 ((f.Prom.N:Nat):Int),.int .i64 f.Prom.P]) (ld34 (cs:=[.int .u64 ((f.Prom.N:Nat):Int),.int .i64 f.Prom.P]) (.tmp rfl rfl) (hs77.at_ 2 rfl (0 + 7) rfl) rfl) ?_
 have okm79:MemB H m_n m_self m_cur m_prom (max m_high f.Cur.N) A_m jn_m jc_m m_jl (m_os.set f.From.toNat (f.Cur,f.Prom)):=⟨hn1_m,hn16_m,hsf_m,⟨okm78.cur.n,okm78.cur.p⟩,okm78.set,⟨okm78.prom.n,okm78.prom.p⟩,okm78.high,okm78.joined,okm78.len,okm78.oth⟩
 have hr80:kViewID.rep H f.Prom [.int .u64 ((f.Prom.N:Nat):Int),.int .i64 f.Prom.P]:=⟨rfl,b11,⟨b12,b13⟩⟩
 refine st_c cb30 .func (evs2 (.tmp rfl rfl) (.tmp rfl rfl)) (hear_X hs77 (m_prop:=(some p_m)) (m_n:=m_n) (m_self:=m_self) (m_cur:=m_cur) (m_prom:=m_prom) (m_high:=(max m_high f.Cur.N)) (m_jl:=m_jl) (m_os:=(m_os.set f.From.toNat (f.Cur,f.Prom))) okm79 f.Prom hr80 ) ?_
 rintro e w81 ⟨rfl,okm83,hs82⟩
 refine ⟨_,rfl,?_⟩
 refine c_nil (n_then (c_seq (c_region (st (v:=.slice none 0 0) (x_assign .const) ?_))))
 refine st (v:=.pointer none) (x_assign .const) ?_
 refine st (v:=.int .i64 0) (x_assign .const) ?_
 refine c_nil (n_then (c_ret (r_block (r_then (leave_ret (res_three (v:=.slice none 0 0) (u:=.pointer none) (x:=.int .i64 0) rfl (.mk rfl rfl) (.mk rfl rfl) (.mk rfl rfl)) ?_)))))
 have hpq:(MB.inn (MB.mk m_n m_self m_cur m_prom m_high (some p_m) m_jl m_os) f sx) = _:=inn_beat hc59 hc68
 rw [hpq]
 have hs84:=hs82.krowNil 53 kOut
 have okm86:MemB H m_n m_self m_cur m_prom (max (max m_high f.Cur.N) f.Prom.N) A_m jn_m jc_m m_jl (m_os.set f.From.toNat (f.Cur,f.Prom)):=⟨hn1_m,hn16_m,hsf_m,⟨okm83.cur.n,okm83.cur.p⟩,okm83.set,⟨okm83.prom.n,okm83.prom.p⟩,okm83.high,okm83.joined,okm83.len,okm83.oth⟩
 have hs87:=hs84.p5
 have hs88:=hs87.p5
 have okp89:PropOk H p_m sv_m sc_m:=⟨⟨hk_m.id.n,hk_m.id.p⟩,hk_m.set,hk_m.who,hk_m.ok,hk_m.hk⟩
 have hs90:=hs88.p3
 have hs91:St H _ (row 53 16 (.slice none 0 0) (([]:List GOut).length) []::obj g42 37 (clState sx A34 n35 c36)::obj g38 51 (clFrame f A14 n15 c16 A19 n20 c21 A23 n24 c25)::memR 78 81 37 g_m gp_m A_m jn_m jc_m sv_m sc_m (MB.mk m_n m_self m_cur m_prom (max (max m_high f.Cur.N) f.Prom.N) (some p_m) m_jl (m_os.set f.From.toNat (f.Cur,f.Prom))) ++ (L)):=St.foldS (TP:=81) (TS:=37) (gp:=gp_m) (sv:=sv_m) (sc:=sc_m) [row 53 16 (.slice none 0 0) (([]:List GOut).length) [],obj g42 37 (clState sx A34 n35 c36),obj g38 51 (clFrame f A14 n15 c16 A19 n20 c21 A23 n24 c25)] hs90
 exact ⟨H,(.slice none 0 0),[],(.pointer none),(MB.mk m_n m_self m_cur m_prom (max (max m_high f.Cur.N) f.Prom.N) (some p_m) m_jl (m_os.set f.From.toNat (f.Cur,f.Prom))),gp_m,A_m,jn_m,jc_m,sv_m,sc_m,(Hp.le.refl _),rfl,(RowOk.knil kOut),(Kn.rows_nil _ _),InstAt.none',(okm86.okS okp89),rfl,((hs91.p1).drop.p1).drop⟩
 have hp68:¬ ((((f.Kind:Nat):Int):Int) = 1):=of_decide_eq_false hc68
 refine c_cond_f (t:=false) (.tmp rfl (cVb hc68)) rfl ?_
 refine c_seq (c_region (st (v:=.bool (decide ((((f.Kind:Nat):Int):Int) = 2))) (x_eql (k:=.u8) (a:=((f.Kind:Nat):Int)) (b:=2) (.tmp rfl rfl) .const) ?_))
 refine st (v:=.bool (decide ((((f.Kind:Nat):Int):Int) = 2))) (x_assign (.tmp rfl rfl)) ?_
 refine c_nil (n_then ?_)
 rcases Bool.eq_false_or_eq_true (decide ((((f.Kind:Nat):Int):Int) = 2)) with hc92 | hc92
 have hp92:(((f.Kind:Nat):Int):Int) = 2:=of_decide_eq_true hc92
 refine c_cond_t (t:=true) (.tmp rfl (cVb hc92)) rfl ?_
 refine c_seq (c_region (st (v:=.pointer (some ⟨g_m,0,none⟩)) (x_move (.tmp rfl hρ54)) ?_))
 refine st (v:=.agg #[.int .u8 ((f.Kind:Nat):Int),.int .i64 f.From,.int .u64 ((f.ID.N:Nat):Int),.int .i64 f.ID.P,.int .u16 ((f.Set:Nat):Int),.int .u64 ((f.Cur.N:Nat):Int),.int .i64 f.Cur.P,.int .u64 ((f.Prom.N:Nat):Int),.int .i64 f.Prom.P,.slice A14 n15 c16,.int .u64 ((f.Base:Nat):Int),.slice A19 n20 c21,.slice A23 n24 c25,.int .u64 ((f.Ack:Nat):Int),.int .u64 ((f.Safe:Nat):Int)]) (ld51 (cs:=[.int .u8 ((f.Kind:Nat):Int),.int .i64 f.From,.int .u64 ((f.ID.N:Nat):Int),.int .i64 f.ID.P,.int .u16 ((f.Set:Nat):Int),.int .u64 ((f.Cur.N:Nat):Int),.int .i64 f.Cur.P,.int .u64 ((f.Prom.N:Nat):Int),.int .i64 f.Prom.P,.slice A14 n15 c16,.int .u64 ((f.Base:Nat):Int),.slice A19 n20 c21,.slice A23 n24 c25,.int .u64 ((f.Ack:Nat):Int),.int .u64 ((f.Safe:Nat):Int)]) (.tmp rfl hρ55) (hs58.at_ 1 rfl (0) rfl) rfl) ?_
 refine st (v:=.agg #[.int .u64 ((sx.V.N:Nat):Int),.int .i64 sx.V.P,.int .i64 sx.Floor,.slice A34 n35 c36]) (ld37 (cs:=[.int .u64 ((sx.V.N:Nat):Int),.int .i64 sx.V.P,.int .i64 sx.Floor,.slice A34 n35 c36]) (.tmp rfl hρ56) (hs58.at_ 0 rfl (0) rfl) rfl) ?_
 have hs93:=hs58.p2
 have okm94:MemB H m_n m_self m_cur m_prom m_high A_m jn_m jc_m m_jl m_os:=⟨hn1_m,hn16_m,hsf_m,⟨ok_m.cur.n,ok_m.cur.p⟩,ok_m.set,⟨ok_m.prom.n,ok_m.prom.p⟩,ok_m.high,ok_m.joined,ok_m.len,ok_m.oth⟩
 have hr95:kFrame.rep H f [.int .u8 ((f.Kind:Nat):Int),.int .i64 f.From,.int .u64 ((f.ID.N:Nat):Int),.int .i64 f.ID.P,.int .u16 ((f.Set:Nat):Int),.int .u64 ((f.Cur.N:Nat):Int),.int .i64 f.Cur.P,.int .u64 ((f.Prom.N:Nat):Int),.int .i64 f.Prom.P,.slice A14 n15 c16,.int .u64 ((f.Base:Nat):Int),.slice A19 n20 c21,.slice A23 n24 c25,.int .u64 ((f.Ack:Nat):Int),.int .u64 ((f.Safe:Nat):Int)]:=⟨A14,n15,c16,A19,n20,c21,A23,n24,c25,rfl,b1,⟨b2,b3⟩,b4,⟨b5,b6⟩,b7,b8,⟨b9,b10⟩,b11,⟨b12,b13⟩,hl17,b18,hl22,hl26,b27,b28⟩
 have hr96:kState.rep H sx [.int .u64 ((sx.V.N:Nat):Int),.int .i64 sx.V.P,.int .i64 sx.Floor,.slice A34 n35 c36]:=⟨A34,n35,c36,rfl,b29,⟨b30,b31⟩,⟨b32,b33⟩,hl37⟩
 refine st_c cb31 .func (evs3 (.tmp rfl rfl) (.tmp rfl rfl) (.tmp rfl rfl)) (propose_X hs93 (m_prop:=(some p_m)) (m_n:=m_n) (m_self:=m_self) (m_cur:=m_cur) (m_prom:=m_prom) (m_high:=m_high) (m_jl:=m_jl) (m_os:=m_os) okm94 f hr95 sx hr96 ) ?_
 rintro e w97 ⟨H99,v101,cs104,pz107,hz108,hle100,rfl,ok102,hk105,okm106,hme109,hs98⟩
 refine ⟨_,rfl,?_⟩
 refine st (v:=v101) (x_extract (.tmp rfl rfl) (i:=0) rfl) ?_
 refine st (v:=.pointer none) (x_extract (.tmp rfl rfl) (i:=1) rfl) ?_
 refine st (v:=.int .i64 ((MB.propose (MB.mk m_n m_self m_cur m_prom m_high (some p_m) m_jl m_os) f sx).2.2.2)) (x_extract (.tmp rfl rfl) (i:=2) rfl) ?_
 refine st (v:=v101) (x_assign (.tmp rfl rfl)) ?_
 refine st (v:=.pointer none) (x_assign (.tmp rfl rfl)) ?_
 refine st (v:=.int .i64 ((MB.propose (MB.mk m_n m_self m_cur m_prom m_high (some p_m) m_jl m_os) f sx).2.2.2)) (x_assign (.tmp rfl rfl)) ?_
 refine c_nil (n_then (c_ret (r_block (r_then (leave_ret (res_three (v:=v101) (u:=.pointer none) (x:=.int .i64 ((MB.propose (MB.mk m_n m_self m_cur m_prom m_high (some p_m) m_jl m_os) f sx).2.2.2)) rfl (.mk rfl rfl) (.mk rfl rfl) (.mk rfl rfl)) ?_)))))
 have hpq:(MB.inn (MB.mk m_n m_self m_cur m_prom m_high (some p_m) m_jl m_os) f sx) = _:=inn_prop hc59 hc68 hc92
 rw [hpq]
 have okm110:MemB H99 m_n m_self m_cur pz107 hz108 A_m jn_m jc_m m_jl m_os:=⟨hn1_m,hn16_m,hsf_m,⟨okm106.cur.n,okm106.cur.p⟩,okm106.set,⟨okm106.prom.n,okm106.prom.p⟩,okm106.high,okm106.joined,okm106.len,okm106.oth⟩
 have hs111:=hs98.p5
 have hs112:=hs111.p5
 have okp113:PropOk H99 p_m sv_m sc_m:=⟨⟨hk_m.id.n,hk_m.id.p⟩,hk_m.set,hk_m.who,hk_m.ok,(Kn.rows_mono hk_m.hk hle100)⟩
 have hs114:=hs112.p3
 have hs115:St H99 _ (row 53 16 v101 (((MB.propose (MB.mk m_n m_self m_cur m_prom m_high (some p_m) m_jl m_os) f sx).2.1).length) cs104::obj g42 37 (clState sx A34 n35 c36)::obj g38 51 (clFrame f A14 n15 c16 A19 n20 c21 A23 n24 c25)::memR 78 81 37 g_m gp_m A_m jn_m jc_m sv_m sc_m (MB.mk m_n m_self m_cur pz107 hz108 (some p_m) m_jl m_os) ++ (L)):=St.foldS (TP:=81) (TS:=37) (gp:=gp_m) (sv:=sv_m) (sc:=sc_m) [row 53 16 v101 (((MB.propose (MB.mk m_n m_self m_cur m_prom m_high (some p_m) m_jl m_os) f sx).2.1).length) cs104,obj g42 37 (clState sx A34 n35 c36),obj g38 51 (clFrame f A14 n15 c16 A19 n20 c21 A23 n24 c25)] hs114
 exact ⟨H99,v101,cs104,(.pointer none),(MB.mk m_n m_self m_cur pz107 hz108 (some p_m) m_jl m_os),gp_m,A_m,jn_m,jc_m,sv_m,sc_m,hle100,rfl,ok102,hk105,(InstAt.none_of propose_none),(okm110.okS okp113),hme109,((hs115.p1).drop.p1).drop⟩
 have hp92:¬ ((((f.Kind:Nat):Int):Int) = 2):=of_decide_eq_false hc92
 refine c_cond_f (t:=false) (.tmp rfl (cVb hc92)) rfl ?_
 refine c_seq (c_region (st (v:=.bool (decide ((((f.Kind:Nat):Int):Int) = 3))) (x_eql (k:=.u8) (a:=((f.Kind:Nat):Int)) (b:=3) (.tmp rfl rfl) .const) ?_))
 refine st (v:=.bool (decide ((((f.Kind:Nat):Int):Int) = 3))) (x_assign (.tmp rfl rfl)) ?_
 refine c_nil (n_then ?_)
 rcases Bool.eq_false_or_eq_true (decide ((((f.Kind:Nat):Int):Int) = 3)) with hc116 | hc116
 have hp116:(((f.Kind:Nat):Int):Int) = 3:=of_decide_eq_true hc116
 refine c_cond_t (t:=true) (.tmp rfl (cVb hc116)) rfl ?_
 refine c_seq (c_region (st (v:=.pointer (some ⟨g_m,0,none⟩)) (x_move (.tmp rfl hρ54)) ?_))
 refine st (v:=.agg #[.int .u8 ((f.Kind:Nat):Int),.int .i64 f.From,.int .u64 ((f.ID.N:Nat):Int),.int .i64 f.ID.P,.int .u16 ((f.Set:Nat):Int),.int .u64 ((f.Cur.N:Nat):Int),.int .i64 f.Cur.P,.int .u64 ((f.Prom.N:Nat):Int),.int .i64 f.Prom.P,.slice A14 n15 c16,.int .u64 ((f.Base:Nat):Int),.slice A19 n20 c21,.slice A23 n24 c25,.int .u64 ((f.Ack:Nat):Int),.int .u64 ((f.Safe:Nat):Int)]) (ld51 (cs:=[.int .u8 ((f.Kind:Nat):Int),.int .i64 f.From,.int .u64 ((f.ID.N:Nat):Int),.int .i64 f.ID.P,.int .u16 ((f.Set:Nat):Int),.int .u64 ((f.Cur.N:Nat):Int),.int .i64 f.Cur.P,.int .u64 ((f.Prom.N:Nat):Int),.int .i64 f.Prom.P,.slice A14 n15 c16,.int .u64 ((f.Base:Nat):Int),.slice A19 n20 c21,.slice A23 n24 c25,.int .u64 ((f.Ack:Nat):Int),.int .u64 ((f.Safe:Nat):Int)]) (.tmp rfl hρ55) (hs58.at_ 1 rfl (0) rfl) rfl) ?_
 have hs117:=hs58.p4
 have hs118:=hs117.p4
 have hs119:=hs118.p4
 have okm120:MemB H m_n m_self m_cur m_prom m_high A_m jn_m jc_m m_jl m_os:=⟨hn1_m,hn16_m,hsf_m,⟨ok_m.cur.n,ok_m.cur.p⟩,ok_m.set,⟨ok_m.prom.n,ok_m.prom.p⟩,ok_m.high,ok_m.joined,ok_m.len,ok_m.oth⟩
 have okp121:PropOk H p_m sv_m sc_m:=⟨⟨hk_m.id.n,hk_m.id.p⟩,hk_m.set,hk_m.who,hk_m.ok,hk_m.hk⟩
 have hr122:kFrame.rep H f [.int .u8 ((f.Kind:Nat):Int),.int .i64 f.From,.int .u64 ((f.ID.N:Nat):Int),.int .i64 f.ID.P,.int .u16 ((f.Set:Nat):Int),.int .u64 ((f.Cur.N:Nat):Int),.int .i64 f.Cur.P,.int .u64 ((f.Prom.N:Nat):Int),.int .i64 f.Prom.P,.slice A14 n15 c16,.int .u64 ((f.Base:Nat):Int),.slice A19 n20 c21,.slice A23 n24 c25,.int .u64 ((f.Ack:Nat):Int),.int .u64 ((f.Safe:Nat):Int)]:=⟨A14,n15,c16,A19,n20,c21,A23,n24,c25,rfl,b1,⟨b2,b3⟩,b4,⟨b5,b6⟩,b7,b8,⟨b9,b10⟩,b11,⟨b12,b13⟩,hl17,b18,hl22,hl26,b27,b28⟩
 refine st_c cb32 .func (evs2 (.tmp rfl rfl) (.tmp rfl rfl)) (accept_S hs119 (p_m:=p_m) (m_n:=m_n) (m_self:=m_self) (m_cur:=m_cur) (m_prom:=m_prom) (m_high:=m_high) (m_jl:=m_jl) (m_os:=m_os) okm120 okp121 f hr122 hpl hb hbf htab) ?_
 rintro e w123 ⟨H125,v127,cs130,iv132,cz135,jz136,A137,jn138,jc139,pz141,sv142,sc143,hle126,rfl,ok128,hk131,hin133,okm134,hkp140,hme144,hs124⟩
 refine ⟨_,rfl,?_⟩
 refine st (v:=v127) (x_extract (.tmp rfl rfl) (i:=0) rfl) ?_
 refine st (v:=iv132) (x_extract (.tmp rfl rfl) (i:=1) rfl) ?_
 refine st (v:=.int .i64 ((MB.accept (MB.mk m_n m_self m_cur m_prom m_high (some p_m) m_jl m_os) f).2.2.2)) (x_extract (.tmp rfl rfl) (i:=2) rfl) ?_
 refine st (v:=v127) (x_assign (.tmp rfl rfl)) ?_
 refine st (v:=iv132) (x_assign (.tmp rfl rfl)) ?_
 refine st (v:=.int .i64 ((MB.accept (MB.mk m_n m_self m_cur m_prom m_high (some p_m) m_jl m_os) f).2.2.2)) (x_assign (.tmp rfl rfl)) ?_
 refine c_nil (n_then (c_ret (r_block (r_then (leave_ret (res_three (v:=v127) (u:=iv132) (x:=.int .i64 ((MB.accept (MB.mk m_n m_self m_cur m_prom m_high (some p_m) m_jl m_os) f).2.2.2)) rfl (.mk rfl rfl) (.mk rfl rfl) (.mk rfl rfl)) ?_)))))
 have hpq:(MB.inn (MB.mk m_n m_self m_cur m_prom m_high (some p_m) m_jl m_os) f sx) = _:=inn_acc hc59 hc68 hc92 hc116
 rw [hpq]
 have okm145:MemB H125 m_n m_self cz135 m_prom m_high A137 jn138 jc139 jz136 m_os:=⟨hn1_m,hn16_m,hsf_m,⟨okm134.cur.n,okm134.cur.p⟩,okm134.set,⟨okm134.prom.n,okm134.prom.p⟩,okm134.high,okm134.joined,okm134.len,okm134.oth⟩
 have hs146:=hs124.p3
 have hs147:=hs146.p3
 have okp148:PropOk H125 pz141 sv142 sc143:=⟨⟨hkp140.id.n,hkp140.id.p⟩,hkp140.set,hkp140.who,hkp140.ok,hkp140.hk⟩
 have hs149:=hs147.p3
 have hs150:St H125 _ (row 53 16 v127 (((MB.accept (MB.mk m_n m_self m_cur m_prom m_high (some p_m) m_jl m_os) f).2.1).length) cs130::obj g42 37 (clState sx A34 n35 c36)::obj g38 51 (clFrame f A14 n15 c16 A19 n20 c21 A23 n24 c25)::memR 78 81 37 g_m gp_m A137 jn138 jc139 sv142 sc143 (MB.mk m_n m_self cz135 m_prom m_high (some pz141) jz136 m_os) ++ (L)):=St.foldS (TP:=81) (TS:=37) (gp:=gp_m) (sv:=sv142) (sc:=sc143) [row 53 16 v127 (((MB.accept (MB.mk m_n m_self m_cur m_prom m_high (some p_m) m_jl m_os) f).2.1).length) cs130,obj g42 37 (clState sx A34 n35 c36),obj g38 51 (clFrame f A14 n15 c16 A19 n20 c21 A23 n24 c25)] hs149
 exact ⟨H125,v127,cs130,iv132,(MB.mk m_n m_self cz135 m_prom m_high (some pz141) jz136 m_os),gp_m,A137,jn138,jc139,sv142,sc143,hle126,rfl,ok128,hk131,hin133,(okm145.okS okp148),hme144,((hs150.p1).drop.p1).drop⟩
 have hp116:¬ ((((f.Kind:Nat):Int):Int) = 3):=of_decide_eq_false hc116
 refine c_cond_f (t:=false) (.tmp rfl (cVb hc116)) rfl ?_
 refine c_seq (c_region (st (v:=.bool (decide ((((f.Kind:Nat):Int):Int) = 4))) (x_eql (k:=.u8) (a:=((f.Kind:Nat):Int)) (b:=4) (.tmp rfl rfl) .const) ?_))
 refine st (v:=.bool (decide ((((f.Kind:Nat):Int):Int) = 4))) (x_assign (.tmp rfl rfl)) ?_
 refine c_nil (n_then ?_)
 rcases Bool.eq_false_or_eq_true (decide ((((f.Kind:Nat):Int):Int) = 4)) with hc151 | hc151
 have hp151:(((f.Kind:Nat):Int):Int) = 4:=of_decide_eq_true hc151
 refine c_cond_t (t:=true) (.tmp rfl (cVb hc151)) rfl ?_
 refine c_seq (c_region (st (v:=.pointer (some ⟨g_m,0,none⟩)) (x_move (.tmp rfl hρ54)) ?_))
 refine st (v:=.pointer (some ⟨g38,0 + 7,none⟩)) (fa51_5 (.tmp rfl hρ55)) ?_
 refine st (v:=.agg #[.int .u64 ((f.Prom.N:Nat):Int),.int .i64 f.Prom.P]) (ld34 (cs:=[.int .u64 ((f.Prom.N:Nat):Int),.int .i64 f.Prom.P]) (.tmp rfl rfl) (hs58.at_ 1 rfl (0 + 7) rfl) rfl) ?_
 have hs152:=hs58.p2
 have okm153:MemB H m_n m_self m_cur m_prom m_high A_m jn_m jc_m m_jl m_os:=⟨hn1_m,hn16_m,hsf_m,⟨ok_m.cur.n,ok_m.cur.p⟩,ok_m.set,⟨ok_m.prom.n,ok_m.prom.p⟩,ok_m.high,ok_m.joined,ok_m.len,ok_m.oth⟩
 have hr154:kViewID.rep H f.Prom [.int .u64 ((f.Prom.N:Nat):Int),.int .i64 f.Prom.P]:=⟨rfl,b11,⟨b12,b13⟩⟩
 refine st_c cb30 .func (evs2 (.tmp rfl rfl) (.tmp rfl rfl)) (hear_X hs152 (m_prop:=(some p_m)) (m_n:=m_n) (m_self:=m_self) (m_cur:=m_cur) (m_prom:=m_prom) (m_high:=m_high) (m_jl:=m_jl) (m_os:=m_os) okm153 f.Prom hr154 ) ?_
 rintro e w155 ⟨rfl,okm157,hs156⟩
 refine ⟨_,rfl,?_⟩
 refine c_nil (n_then (c_seq (c_seq (c_region (st (v:=.pointer (some ⟨g_m,0,none⟩)) (x_move (.tmp rfl hρ54)) ?_)))))
 refine st (v:=.pointer (some ⟨g_m,0,none⟩)) (x_nilCheck (.tmp rfl rfl)) ?_
 refine st (v:=.pointer (some ⟨g_m,0 + 8,none⟩)) (fa78_5 (.tmp rfl rfl)) ?_
 refine st (v:=.pointer (some ⟨gp_m,0,none⟩)) (ld75 (.tmp rfl rfl) (hs156.cell 0 rfl (0 + 8) rfl)) ?_
 refine st (v:=.pointer (some ⟨gp_m,0,none⟩)) (x_assign (.tmp rfl rfl)) ?_
 refine c_nil (n_then (c_seq (q_region mixed hs156 (by kernel_rfl) ?_)))
 refine q_st (v:=.pointer (some ⟨gp_m,0,none⟩)) (fun w hs => (x_move (.tmp rfl rfl))) ?_
 refine q_st (v:=.bool true) (fun w hs => (x_neqP Tryd.underlying75 (.tmp rfl rfl) .const rfl)) ?_
 refine q_st (v:=.bool true) (fun w hs => (x_move (.tmp rfl rfl))) ?_
 refine q_yes (yl (dj:=87) (b:=true) rfl rfl rfl) ?_
 refine q_st (v:=.pointer (some ⟨gp_m,0,none⟩)) (fun w hs => (x_move (.tmp rfl rfl))) ?_
 refine q_yes (yl (dj:=87) (b:=true) rfl rfl rfl) ?_
 refine q_st (v:=.pointer (some ⟨gp_m,0,none⟩)) (fun w hs => (x_nilCheck (.tmp rfl rfl))) ?_
 refine q_yes (yl (dj:=87) (b:=true) rfl rfl rfl) ?_
 refine q_st (v:=.pointer (some ⟨gp_m,0 + 0,none⟩)) (fun w hs => (fa81_0 (.tmp rfl rfl))) ?_
 refine q_yes (yl (dj:=87) (b:=true) rfl rfl rfl) ?_
 refine q_st (v:=.pointer (some ⟨gp_m,0 + 0 + 0,none⟩)) (fun w hs => (fa39_0 (.tmp rfl rfl))) ?_
 refine q_yes (yl (dj:=87) (b:=true) rfl rfl rfl) ?_
 refine q_st (v:=.agg #[.int .u64 ((p_m.v.ID.N:Nat):Int),.int .i64 p_m.v.ID.P]) (fun w hs => (ld34 (cs:=[.int .u64 ((p_m.v.ID.N:Nat):Int),.int .i64 p_m.v.ID.P]) (.tmp rfl rfl) (hs.at_ 3 rfl (0 + 0 + 0) rfl) rfl)) ?_
 refine q_yes (yl (dj:=87) (b:=true) rfl rfl rfl) ?_
 refine q_st (v:=.pointer (some ⟨g38,0 + 2,none⟩)) (fun w hs => (fa51_2 (.tmp rfl hρ55))) ?_
 refine q_yes (yl (dj:=87) (b:=true) rfl rfl rfl) ?_
 refine q_st (v:=.agg #[.int .u64 ((f.ID.N:Nat):Int),.int .i64 f.ID.P]) (fun w hs => (ld34 (cs:=[.int .u64 ((f.ID.N:Nat):Int),.int .i64 f.ID.P]) (.tmp rfl rfl) (hs.at_ 2 rfl (0 + 2) rfl) rfl)) ?_
 refine q_yes (yl (dj:=87) (b:=true) rfl rfl rfl) ?_
 refine q_st (v:=.bool ((((p_m.v.ID.N:Nat):Int) == ((f.ID.N:Nat):Int)) && ((p_m.v.ID.P == f.ID.P) && true))) (fun w hs => (x_eqlA eqg34 (.tmp rfl rfl) (.tmp rfl rfl) (fun d => eqs34 (d + 98) _ ((p_m.v.ID.N:Nat):Int) ((f.ID.N:Nat):Int) p_m.v.ID.P f.ID.P))) ?_
 refine q_st (v:=.bool (decide (p_m.v.ID = f.ID))) (fun w hs => (x_pick_t (.tmp rfl rfl) (.tmp rfl (cVb (GViewID.beq_dec p_m.v.ID f.ID))))) ?_
 refine q_st (v:=.bool (decide (p_m.v.ID = f.ID))) (fun w hs => (x_move (.tmp rfl rfl))) ?_
 refine jq 6 (fun ρ => ρ 103 = .bool ((decide (p_m.v.ID = f.ID)) && (!p_m.done))∧ρ 0 = .pointer (some ⟨g_m,0,none⟩)∧ρ 4 = .pointer (some ⟨g38,0,none⟩)∧True) ?_ ?_
 rcases Bool.eq_false_or_eq_true (decide (p_m.v.ID = f.ID)) with hc158 | hc158
 have hp158:p_m.v.ID = f.ID:=of_decide_eq_true hc158
 refine q_yes (yk 97 true rfl rfl hc158) ?_
 refine q_st (v:=.pointer (some ⟨gp_m,0,none⟩)) (fun w hs => (x_move (.tmp rfl rfl))) ?_
 refine q_yes (yk 97 true rfl rfl hc158) ?_
 refine q_st (v:=.pointer (some ⟨gp_m,0,none⟩)) (fun w hs => (x_nilCheck (.tmp rfl rfl))) ?_
 refine q_yes (yk 97 true rfl rfl hc158) ?_
 refine q_st (v:=.pointer (some ⟨gp_m,0 + 5,none⟩)) (fun w hs => (fa81_3 (.tmp rfl rfl))) ?_
 refine q_yes (yk 97 true rfl rfl hc158) ?_
 refine q_st (v:=.bool p_m.done) (fun w hs => (ld4 (.tmp rfl rfl) (hs.cell 3 rfl (0 + 5) rfl))) ?_
 refine q_yes (yk 97 true rfl rfl hc158) ?_
 refine q_st (v:=.bool (!p_m.done)) (fun w hs => (x_not (.tmp rfl rfl))) ?_
 refine q_st (v:=.bool (!p_m.done)) (fun w hs => (x_pick_t (.tmp rfl (cVb hc158)) (.tmp rfl rfl))) ?_
 exact jq_end ⟨(cVb (jand_t hc158)),hρ54,hρ55,True.intro⟩
 have hp158:¬ (p_m.v.ID = f.ID):=of_decide_eq_false hc158
 refine q_no (yk 97 false rfl rfl hc158) rfl ?_
 refine q_no (yk 97 false rfl rfl hc158) rfl ?_
 refine q_no (yk 97 false rfl rfl hc158) rfl ?_
 refine q_no (yk 97 false rfl rfl hc158) rfl ?_
 refine q_no (yk 97 false rfl rfl hc158) rfl ?_
 refine q_st (v:=.bool false) (fun w hs => (x_pick_f (.tmp rfl (cVb hc158)) .const)) ?_
 exact jq_end ⟨(cVb (jand_f hc158)),hρ54,hρ55,True.intro⟩
 rintro ρ ⟨hρ159,hρ160,hρ161,_⟩
 refine q_st (v:=.bool ((decide (p_m.v.ID = f.ID)) && (!p_m.done))) (fun w hs => (x_move (.tmp rfl hρ159))) ?_
 refine jq 6 (fun ρ => ρ 110 = .bool (((decide (p_m.v.ID = f.ID)) && (!p_m.done)) && (decide (0 < cmpV f.Prom.N f.Prom.P f.ID.N f.ID.P)))∧ρ 0 = .pointer (some ⟨g_m,0,none⟩)∧True) ?_ ?_
 rcases Bool.eq_false_or_eq_true ((decide (p_m.v.ID = f.ID)) && (!p_m.done)) with hc163 | hc163
 have hp163:(p_m.v.ID = f.ID)∧(¬ (p_m.done = true)):=((J_and decide_eq_true_iff (J_not Iff.rfl))).1 hc163
 refine q_yes (yk 104 true rfl rfl hc163) ?_
 refine q_st (v:=.pointer (some ⟨g38,0 + 7,none⟩)) (fun w hs => (fa51_5 (.tmp rfl hρ161))) ?_
 refine q_yes (yk 104 true rfl rfl hc163) ?_
 refine q_st (v:=.agg #[.int .u64 ((f.Prom.N:Nat):Int),.int .i64 f.Prom.P]) (fun w hs => (ld34 (cs:=[.int .u64 ((f.Prom.N:Nat):Int),.int .i64 f.Prom.P]) (.tmp rfl rfl) (hs.at_ 2 rfl (0 + 7) rfl) rfl)) ?_
 refine q_yes (yk 104 true rfl rfl hc163) ?_
 refine q_st (v:=.pointer (some ⟨g38,0 + 2,none⟩)) (fun w hs => (fa51_2 (.tmp rfl hρ161))) ?_
 refine q_yes (yk 104 true rfl rfl hc163) ?_
 refine q_st (v:=.agg #[.int .u64 ((f.ID.N:Nat):Int),.int .i64 f.ID.P]) (fun w hs => (ld34 (cs:=[.int .u64 ((f.ID.N:Nat):Int),.int .i64 f.ID.P]) (.tmp rfl rfl) (hs.at_ 2 rfl (0 + 2) rfl) rfl)) ?_
 refine q_yes (yk 104 true rfl rfl hc163) ?_
 refine q_c (v:=.bool (decide (0 < cmpV f.Prom.N f.Prom.P f.ID.N f.ID.P))) cb33 .func (evs2 (.tmp rfl rfl) (.tmp rfl rfl)) (fun w hs => above_spec hs f.Prom.N f.Prom.P f.ID.N f.ID.P) ?_
 refine q_st (v:=.bool (decide (0 < cmpV f.Prom.N f.Prom.P f.ID.N f.ID.P))) (fun w hs => (x_pick_t (.tmp rfl (cVb hc163)) (.tmp rfl rfl))) ?_
 exact jq_end ⟨(cVb (jand_t hc163)),hρ160,True.intro⟩
 have hp163:¬ ((p_m.v.ID = f.ID)∧(¬ (p_m.done = true))):=J_no (J_and decide_eq_true_iff (J_not Iff.rfl)) hc163
 refine q_no (yk 104 false rfl rfl hc163) rfl ?_
 refine q_no (yk 104 false rfl rfl hc163) rfl ?_
 refine q_no (yk 104 false rfl rfl hc163) rfl ?_
 refine q_no (yk 104 false rfl rfl hc163) rfl ?_
 refine q_no (yk 104 false rfl rfl hc163) rfl ?_
 refine q_st (v:=.bool false) (fun w hs => (x_pick_f (.tmp rfl (cVb hc163)) .const)) ?_
 exact jq_end ⟨(cVb (jand_f hc163)),hρ160,True.intro⟩
 rintro ρ ⟨hρ164,hρ165,_⟩
 refine q_nil ?_
 intro w hs167
 refine n_then ?_
 rcases Bool.eq_false_or_eq_true (((decide (p_m.v.ID = f.ID)) && (!p_m.done)) && (decide (0 < cmpV f.Prom.N f.Prom.P f.ID.N f.ID.P))) with hc168 | hc168
 have hp168:((p_m.v.ID = f.ID)∧(¬ (p_m.done = true)))∧((decide (0 < cmpV f.Prom.N f.Prom.P f.ID.N f.ID.P)) = true):=((J_and (J_and decide_eq_true_iff (J_not Iff.rfl)) Iff.rfl)).1 hc168
 refine c_cond_t (t:=true) (.tmp rfl (hρ164.trans (cVb hc168))) rfl ?_
 refine c_region (st (v:=.pointer (some ⟨g_m,0,none⟩)) (x_move (.tmp rfl hρ165)) ?_)
 refine st (v:=.pointer (some ⟨g_m,0,none⟩)) (x_nilCheck (.tmp rfl rfl)) ?_
 refine st (v:=.pointer (some ⟨g_m,0 + 8,none⟩)) (fa78_5 (.tmp rfl rfl)) ?_
 refine st_m0 (sto75 (cs':=((.int .i64 ((m_n:Nat):Int))::(.int .i64 ((m_self:Nat):Int))::(.int .u64 ((m_cur.ID.N:Nat):Int))::(.int .i64 m_cur.ID.P)::(.int .u16 ((m_cur.Set:Nat):Int))::(.int .u64 ((m_prom.N:Nat):Int))::(.int .i64 m_prom.P)::(.int .u64 (((max m_high f.Prom.N):Nat):Int))::(.pointer none)::(.slice A_m jn_m jc_m)::oCells m_os)) (i:=0 + 8) hs167 (v:=.pointer none) (.tmp rfl rfl) .const rfl (Nat.le_of_ble_eq_true rfl) one1 rfl) ?_
 rintro w169 hs171
 refine c_nil (n_then (c_seq (c_region (st (v:=.slice none 0 0) (x_assign .const) ?_))))
 refine st (v:=.pointer none) (x_assign .const) ?_
 refine st (v:=.int .i64 0) (x_assign .const) ?_
 refine c_nil (n_then (c_ret (r_block (r_then (leave_ret (res_three (v:=.slice none 0 0) (u:=.pointer none) (x:=.int .i64 0) rfl (.mk rfl rfl) (.mk rfl rfl) (.mk rfl rfl)) ?_)))))
 have hpq:(MB.inn (MB.mk m_n m_self m_cur m_prom m_high (some p_m) m_jl m_os) f sx) = _:=inn_ref_yes hc59 hc68 hc92 hc116 hc151 hc168
 rw [hpq]
 have hs172:=hs171.krowNil 53 kOut
 have okm174:MemB H m_n m_self m_cur m_prom (max m_high f.Prom.N) A_m jn_m jc_m m_jl m_os:=⟨hn1_m,hn16_m,hsf_m,⟨okm157.cur.n,okm157.cur.p⟩,okm157.set,⟨okm157.prom.n,okm157.prom.p⟩,okm157.high,okm157.joined,okm157.len,okm157.oth⟩
 have hs175:=hs172.p1
 have hs176:St H _ (row 53 16 (.slice none 0 0) (([]:List GOut).length) []::obj g42 37 (clState sx A34 n35 c36)::obj g38 51 (clFrame f A14 n15 c16 A19 n20 c21 A23 n24 c25)::obj gp_m 81 (clProp p_m sv_m)::row 37 4 sv_m p_m.states.length sc_m::memR 78 81 37 g_m 0 A_m jn_m jc_m (.slice none 0 0) [] (MB.mk m_n m_self m_cur m_prom (max m_high f.Prom.N) none m_jl m_os) ++ (L)):=St.foldN (TP:=81) (TS:=37) (gp:=0) (sv:=(.slice none 0 0)) (sc:=[]) [row 53 16 (.slice none 0 0) (([]:List GOut).length) [],obj g42 37 (clState sx A34 n35 c36),obj g38 51 (clFrame f A14 n15 c16 A19 n20 c21 A23 n24 c25),obj gp_m 81 (clProp p_m sv_m),row 37 4 sv_m p_m.states.length sc_m] hs175
 exact ⟨H,(.slice none 0 0),[],(.pointer none),(MB.mk m_n m_self m_cur m_prom (max m_high f.Prom.N) none m_jl m_os),0,A_m,jn_m,jc_m,(.slice none 0 0),[],(Hp.le.refl _),rfl,(RowOk.knil kOut),(Kn.rows_nil _ _),InstAt.none',okm174.okN,rfl,((((hs176.p1).drop.p1).drop.p1).drop.p1).drop⟩
 have hp168:¬ (((p_m.v.ID = f.ID)∧(¬ (p_m.done = true)))∧((decide (0 < cmpV f.Prom.N f.Prom.P f.ID.N f.ID.P)) = true)):=J_no (J_and (J_and decide_eq_true_iff (J_not Iff.rfl)) Iff.rfl) hc168
 refine c_cond_f (t:=false) (.tmp rfl (hρ164.trans (cVb hc168))) rfl ?_
 refine c_skip (n_then (c_seq (c_region (st (v:=.slice none 0 0) (x_assign .const) ?_))))
 refine st (v:=.pointer none) (x_assign .const) ?_
 refine st (v:=.int .i64 0) (x_assign .const) ?_
 refine c_nil (n_then (c_ret (r_block (r_then (leave_ret (res_three (v:=.slice none 0 0) (u:=.pointer none) (x:=.int .i64 0) rfl (.mk rfl rfl) (.mk rfl rfl) (.mk rfl rfl)) ?_)))))
 have hpq:(MB.inn (MB.mk m_n m_self m_cur m_prom m_high (some p_m) m_jl m_os) f sx) = _:=inn_ref_no hc59 hc68 hc92 hc116 hc151 hc168
 rw [hpq]
 have hs177:=hs167.krowNil 53 kOut
 have okm179:MemB H m_n m_self m_cur m_prom (max m_high f.Prom.N) A_m jn_m jc_m m_jl m_os:=⟨hn1_m,hn16_m,hsf_m,⟨okm157.cur.n,okm157.cur.p⟩,okm157.set,⟨okm157.prom.n,okm157.prom.p⟩,okm157.high,okm157.joined,okm157.len,okm157.oth⟩
 have hs180:=hs177.p5
 have hs181:=hs180.p5
 have okp182:PropOk H p_m sv_m sc_m:=⟨⟨hk_m.id.n,hk_m.id.p⟩,hk_m.set,hk_m.who,hk_m.ok,hk_m.hk⟩
 have hs183:=hs181.p3
 have hs184:St H _ (row 53 16 (.slice none 0 0) (([]:List GOut).length) []::obj g42 37 (clState sx A34 n35 c36)::obj g38 51 (clFrame f A14 n15 c16 A19 n20 c21 A23 n24 c25)::memR 78 81 37 g_m gp_m A_m jn_m jc_m sv_m sc_m (MB.mk m_n m_self m_cur m_prom (max m_high f.Prom.N) (some p_m) m_jl m_os) ++ (L)):=St.foldS (TP:=81) (TS:=37) (gp:=gp_m) (sv:=sv_m) (sc:=sc_m) [row 53 16 (.slice none 0 0) (([]:List GOut).length) [],obj g42 37 (clState sx A34 n35 c36),obj g38 51 (clFrame f A14 n15 c16 A19 n20 c21 A23 n24 c25)] hs183
 exact ⟨H,(.slice none 0 0),[],(.pointer none),(MB.mk m_n m_self m_cur m_prom (max m_high f.Prom.N) (some p_m) m_jl m_os),gp_m,A_m,jn_m,jc_m,sv_m,sc_m,(Hp.le.refl _),rfl,(RowOk.knil kOut),(Kn.rows_nil _ _),InstAt.none',(okm179.okS okp182),rfl,((hs184.p1).drop.p1).drop⟩
 have hp151:¬ ((((f.Kind:Nat):Int):Int) = 4):=of_decide_eq_false hc151
 refine c_cond_f (t:=false) (.tmp rfl (cVb hc151)) rfl ?_
 refine c_seq (c_region (st (v:=.bool (decide ((((f.Kind:Nat):Int):Int) = 5))) (x_eql (k:=.u8) (a:=((f.Kind:Nat):Int)) (b:=5) (.tmp rfl rfl) .const) ?_))
 refine st (v:=.bool (decide ((((f.Kind:Nat):Int):Int) = 5))) (x_assign (.tmp rfl rfl)) ?_
 refine c_nil (n_then ?_)
 rcases Bool.eq_false_or_eq_true (decide ((((f.Kind:Nat):Int):Int) = 5)) with hc185 | hc185
 have hp185:(((f.Kind:Nat):Int):Int) = 5:=of_decide_eq_true hc185
 refine c_cond_t (t:=true) (.tmp rfl (cVb hc185)) rfl ?_
 refine c_seq (c_seq (q_region mixed hs58 (by kernel_rfl) ?_))
 refine q_st (v:=.pointer (some ⟨g38,0 + 2,none⟩)) (fun w hs => (fa51_2 (.tmp rfl hρ55))) ?_
 refine q_st (v:=.agg #[.int .u64 ((f.ID.N:Nat):Int),.int .i64 f.ID.P]) (fun w hs => (ld34 (cs:=[.int .u64 ((f.ID.N:Nat):Int),.int .i64 f.ID.P]) (.tmp rfl rfl) (hs.at_ 1 rfl (0 + 2) rfl) rfl)) ?_
 refine q_st (v:=.pointer (some ⟨g_m,0,none⟩)) (fun w hs => (x_move (.tmp rfl hρ54))) ?_
 refine q_st (v:=.pointer (some ⟨g_m,0,none⟩)) (fun w hs => (x_nilCheck (.tmp rfl rfl))) ?_
 refine q_st (v:=.pointer (some ⟨g_m,0 + 5,none⟩)) (fun w hs => (fa78_3 (.tmp rfl rfl))) ?_
 refine q_st (v:=.agg #[.int .u64 ((m_prom.N:Nat):Int),.int .i64 m_prom.P]) (fun w hs => (ld34 (cs:=[.int .u64 ((m_prom.N:Nat):Int),.int .i64 m_prom.P]) (.tmp rfl rfl) (hs.at_ 2 rfl (0 + 5) rfl) rfl)) ?_
 refine q_st (v:=.bool (!((((f.ID.N:Nat):Int) == ((m_prom.N:Nat):Int)) && ((f.ID.P == m_prom.P) && true)))) (fun w hs => (x_neqA eqg34 (.tmp rfl rfl) (.tmp rfl rfl) (fun d => eqs34 (d + 98) _ ((f.ID.N:Nat):Int) ((m_prom.N:Nat):Int) f.ID.P m_prom.P))) ?_
 refine q_st (v:=.bool (!(decide (f.ID = m_prom)))) (fun w hs => (x_move (.tmp rfl (congrArg (fun z => Value.bool (!z)) (GViewID.beq_dec f.ID m_prom))))) ?_
 refine jq 9 (fun ρ => ρ 132 = .bool ((!(decide (f.ID = m_prom))) || (decide (m_cur.ID = f.ID)))∧ρ 0 = .pointer (some ⟨g_m,0,none⟩)∧ρ 4 = .pointer (some ⟨g38,0,none⟩)∧True) ?_ ?_
 rcases Bool.eq_false_or_eq_true (decide (f.ID = m_prom)) with hc186 | hc186
 have hp186:f.ID = m_prom:=of_decide_eq_true hc186
 refine q_yes (yl (dj:=123) (b:=false) rfl rfl (cVb (by rw [hc186]; rfl))) ?_
 refine q_st (v:=.pointer (some ⟨g_m,0,none⟩)) (fun w hs => (x_move (.tmp rfl hρ54))) ?_
 refine q_yes (yl (dj:=123) (b:=false) rfl rfl (cVb (by rw [hc186]; rfl))) ?_
 refine q_st (v:=.pointer (some ⟨g_m,0,none⟩)) (fun w hs => (x_nilCheck (.tmp rfl rfl))) ?_
 refine q_yes (yl (dj:=123) (b:=false) rfl rfl (cVb (by rw [hc186]; rfl))) ?_
 refine q_st (v:=.pointer (some ⟨g_m,0 + 2,none⟩)) (fun w hs => (fa78_2 (.tmp rfl rfl))) ?_
 refine q_yes (yl (dj:=123) (b:=false) rfl rfl (cVb (by rw [hc186]; rfl))) ?_
 refine q_st (v:=.pointer (some ⟨g_m,0 + 2 + 0,none⟩)) (fun w hs => (fa39_0 (.tmp rfl rfl))) ?_
 refine q_yes (yl (dj:=123) (b:=false) rfl rfl (cVb (by rw [hc186]; rfl))) ?_
 refine q_st (v:=.agg #[.int .u64 ((m_cur.ID.N:Nat):Int),.int .i64 m_cur.ID.P]) (fun w hs => (ld34 (cs:=[.int .u64 ((m_cur.ID.N:Nat):Int),.int .i64 m_cur.ID.P]) (.tmp rfl rfl) (hs.at_ 2 rfl (0 + 2 + 0) rfl) rfl)) ?_
 refine q_yes (yl (dj:=123) (b:=false) rfl rfl (cVb (by rw [hc186]; rfl))) ?_
 refine q_st (v:=.pointer (some ⟨g38,0 + 2,none⟩)) (fun w hs => (fa51_2 (.tmp rfl hρ55))) ?_
 refine q_yes (yl (dj:=123) (b:=false) rfl rfl (cVb (by rw [hc186]; rfl))) ?_
 refine q_st (v:=.agg #[.int .u64 ((f.ID.N:Nat):Int),.int .i64 f.ID.P]) (fun w hs => (ld34 (cs:=[.int .u64 ((f.ID.N:Nat):Int),.int .i64 f.ID.P]) (.tmp rfl rfl) (hs.at_ 1 rfl (0 + 2) rfl) rfl)) ?_
 refine q_yes (yl (dj:=123) (b:=false) rfl rfl (cVb (by rw [hc186]; rfl))) ?_
 refine q_st (v:=.bool ((((m_cur.ID.N:Nat):Int) == ((f.ID.N:Nat):Int)) && ((m_cur.ID.P == f.ID.P) && true))) (fun w hs => (x_eqlA eqg34 (.tmp rfl rfl) (.tmp rfl rfl) (fun d => eqs34 (d + 98) _ ((m_cur.ID.N:Nat):Int) ((f.ID.N:Nat):Int) m_cur.ID.P f.ID.P))) ?_
 refine q_st (v:=.bool (decide (m_cur.ID = f.ID))) (fun w hs => (x_pick_f (.tmp rfl (cVb (by rw [hc186]; rfl))) (.tmp rfl (cVb (GViewID.beq_dec m_cur.ID f.ID))))) ?_
 exact jq_end ⟨(cVb (jor_f (by rw [hc186]; rfl))),hρ54,hρ55,True.intro⟩
 have hp186:¬ (f.ID = m_prom):=of_decide_eq_false hc186
 refine q_no (yl (dj:=123) (b:=true) rfl rfl (cVb (by rw [hc186]; rfl))) rfl ?_
 refine q_no (yl (dj:=123) (b:=true) rfl rfl (cVb (by rw [hc186]; rfl))) rfl ?_
 refine q_no (yl (dj:=123) (b:=true) rfl rfl (cVb (by rw [hc186]; rfl))) rfl ?_
 refine q_no (yl (dj:=123) (b:=true) rfl rfl (cVb (by rw [hc186]; rfl))) rfl ?_
 refine q_no (yl (dj:=123) (b:=true) rfl rfl (cVb (by rw [hc186]; rfl))) rfl ?_
 refine q_no (yl (dj:=123) (b:=true) rfl rfl (cVb (by rw [hc186]; rfl))) rfl ?_
 refine q_no (yl (dj:=123) (b:=true) rfl rfl (cVb (by rw [hc186]; rfl))) rfl ?_
 refine q_no (yl (dj:=123) (b:=true) rfl rfl (cVb (by rw [hc186]; rfl))) rfl ?_
 refine q_st (v:=.bool true) (fun w hs => (x_pick_t (.tmp rfl (cVb (by rw [hc186]; rfl))) .const)) ?_
 exact jq_end ⟨(cVb (jor_t (by rw [hc186]; rfl))),hρ54,hρ55,True.intro⟩
 rintro ρ ⟨hρ187,hρ188,hρ189,_⟩
 refine q_st (v:=.bool ((!(decide (f.ID = m_prom))) || (decide (m_cur.ID = f.ID)))) (fun w hs => (x_move (.tmp rfl hρ187))) ?_
 refine jq 9 (fun ρ => ρ 142 = .bool (((!(decide (f.ID = m_prom))) || (decide (m_cur.ID = f.ID))) || (!(has f.Set ((m_self:Nat):Int))))∧ρ 0 = .pointer (some ⟨g_m,0,none⟩)∧ρ 4 = .pointer (some ⟨g38,0,none⟩)∧True) ?_ ?_
 rcases Bool.eq_false_or_eq_true ((!(decide (f.ID = m_prom))) || (decide (m_cur.ID = f.ID))) with hc191 | hc191
 have hp191:(¬ (f.ID = m_prom)) ∨ (m_cur.ID = f.ID):=((J_or (J_not decide_eq_true_iff) decide_eq_true_iff)).1 hc191
 refine q_no (yk 133 true rfl rfl hc191) rfl ?_
 refine q_no (yk 133 true rfl rfl hc191) rfl ?_
 refine q_no (yk 133 true rfl rfl hc191) rfl ?_
 refine q_no (yk 133 true rfl rfl hc191) rfl ?_
 refine q_no (yk 133 true rfl rfl hc191) rfl ?_
 refine q_no (yk 133 true rfl rfl hc191) rfl ?_
 refine q_no (yk 133 true rfl rfl hc191) rfl ?_
 refine q_no (yk 133 true rfl rfl hc191) rfl ?_
 refine q_st (v:=.bool true) (fun w hs => (x_pick_t (.tmp rfl (cVb hc191)) .const)) ?_
 exact jq_end ⟨(cVb (jor_t hc191)),hρ188,hρ189,True.intro⟩
 have hp191:¬ ((¬ (f.ID = m_prom)) ∨ (m_cur.ID = f.ID)):=J_no (J_or (J_not decide_eq_true_iff) decide_eq_true_iff) hc191
 refine q_yes (yk 133 false rfl rfl hc191) ?_
 refine q_st (v:=.pointer (some ⟨g38,0 + 4,none⟩)) (fun w hs => (fa51_3 (.tmp rfl hρ189))) ?_
 refine q_yes (yk 133 false rfl rfl hc191) ?_
 refine q_st (v:=.int .u16 ((f.Set:Nat):Int)) (fun w hs => (ld31 (.tmp rfl rfl) (hs.cell 1 rfl (0 + 4) rfl))) ?_
 refine q_yes (yk 133 false rfl rfl hc191) ?_
 refine q_st (v:=.pointer (some ⟨g_m,0,none⟩)) (fun w hs => (x_move (.tmp rfl hρ188))) ?_
 refine q_yes (yk 133 false rfl rfl hc191) ?_
 refine q_st (v:=.pointer (some ⟨g_m,0,none⟩)) (fun w hs => (x_nilCheck (.tmp rfl rfl))) ?_
 refine q_yes (yk 133 false rfl rfl hc191) ?_
 refine q_st (v:=.pointer (some ⟨g_m,0 + 1,none⟩)) (fun w hs => (fa78_1 (.tmp rfl rfl))) ?_
 refine q_yes (yk 133 false rfl rfl hc191) ?_
 refine q_st (v:=.int .i64 ((m_self:Nat):Int)) (fun w hs => (ld3 (.tmp rfl rfl) (hs.cell 2 rfl (0 + 1) rfl))) ?_
 refine q_yes (yk 133 false rfl rfl hc191) ?_
 refine q_c (v:=.bool (has f.Set ((m_self:Nat):Int))) cb34 .func (evs2 (.tmp rfl rfl) (.tmp rfl rfl)) (fun w hs => has_spec hs f.Set ((m_self:Nat):Int) b7 (by omega)) ?_
 refine q_yes (yk 133 false rfl rfl hc191) ?_
 refine q_st (v:=.bool (!(has f.Set ((m_self:Nat):Int)))) (fun w hs => (x_not (.tmp rfl rfl))) ?_
 refine q_st (v:=.bool (!(has f.Set ((m_self:Nat):Int)))) (fun w hs => (x_pick_f (.tmp rfl (cVb hc191)) (.tmp rfl rfl))) ?_
 exact jq_end ⟨(cVb (jor_f hc191)),hρ188,hρ189,True.intro⟩
 rintro ρ ⟨hρ192,hρ193,hρ194,_⟩
 refine q_st (v:=.bool (((!(decide (f.ID = m_prom))) || (decide (m_cur.ID = f.ID))) || (!(has f.Set ((m_self:Nat):Int))))) (fun w hs => (x_move (.tmp rfl hρ192))) ?_
 refine jq 7 (fun ρ => ρ 150 = .bool ((((!(decide (f.ID = m_prom))) || (decide (m_cur.ID = f.ID))) || (!(has f.Set ((m_self:Nat):Int)))) || (decide ((f.ID.P:Int) ≠ f.From)))∧ρ 0 = .pointer (some ⟨g_m,0,none⟩)∧ρ 4 = .pointer (some ⟨g38,0,none⟩)∧True) ?_ ?_
 rcases Bool.eq_false_or_eq_true (((!(decide (f.ID = m_prom))) || (decide (m_cur.ID = f.ID))) || (!(has f.Set ((m_self:Nat):Int)))) with hc196 | hc196
 have hp196:((¬ (f.ID = m_prom)) ∨ (m_cur.ID = f.ID)) ∨ (¬ ((has f.Set ((m_self:Nat):Int)) = true)):=((J_or (J_or (J_not decide_eq_true_iff) decide_eq_true_iff) (J_not Iff.rfl))).1 hc196
 refine q_no (yk 143 true rfl rfl hc196) rfl ?_
 refine q_no (yk 143 true rfl rfl hc196) rfl ?_
 refine q_no (yk 143 true rfl rfl hc196) rfl ?_
 refine q_no (yk 143 true rfl rfl hc196) rfl ?_
 refine q_no (yk 143 true rfl rfl hc196) rfl ?_
 refine q_no (yk 143 true rfl rfl hc196) rfl ?_
 refine q_st (v:=.bool true) (fun w hs => (x_pick_t (.tmp rfl (cVb hc196)) .const)) ?_
 exact jq_end ⟨(cVb (jor_t hc196)),hρ193,hρ194,True.intro⟩
 have hp196:¬ (((¬ (f.ID = m_prom)) ∨ (m_cur.ID = f.ID)) ∨ (¬ ((has f.Set ((m_self:Nat):Int)) = true))):=J_no (J_or (J_or (J_not decide_eq_true_iff) decide_eq_true_iff) (J_not Iff.rfl)) hc196
 refine q_yes (yk 143 false rfl rfl hc196) ?_
 refine q_st (v:=.pointer (some ⟨g38,0 + 2,none⟩)) (fun w hs => (fa51_2 (.tmp rfl hρ194))) ?_
 refine q_yes (yk 143 false rfl rfl hc196) ?_
 refine q_st (v:=.pointer (some ⟨g38,0 + 2 + 1,none⟩)) (fun w hs => (fa34_1 (.tmp rfl rfl))) ?_
 refine q_yes (yk 143 false rfl rfl hc196) ?_
 refine q_st (v:=.int .i64 f.ID.P) (fun w hs => (ld3 (.tmp rfl rfl) (hs.cell 1 rfl (0 + 2 + 1) rfl))) ?_
 refine q_yes (yk 143 false rfl rfl hc196) ?_
 refine q_st (v:=.pointer (some ⟨g38,0 + 1,none⟩)) (fun w hs => (fa51_1 (.tmp rfl hρ194))) ?_
 refine q_yes (yk 143 false rfl rfl hc196) ?_
 refine q_st (v:=.int .i64 f.From) (fun w hs => (ld3 (.tmp rfl rfl) (hs.cell 1 rfl (0 + 1) rfl))) ?_
 refine q_yes (yk 143 false rfl rfl hc196) ?_
 refine q_st (v:=.bool (decide ((f.ID.P:Int) ≠ f.From))) (fun w hs => (x_neq (k:=.i64) (a:=f.ID.P) (b:=f.From) (.tmp rfl rfl) (.tmp rfl rfl))) ?_
 refine q_st (v:=.bool (decide ((f.ID.P:Int) ≠ f.From))) (fun w hs => (x_pick_f (.tmp rfl (cVb hc196)) (.tmp rfl rfl))) ?_
 exact jq_end ⟨(cVb (jor_f hc196)),hρ193,hρ194,True.intro⟩
 rintro ρ ⟨hρ197,hρ198,hρ199,_⟩
 refine q_nil ?_
 intro w hs201
 refine n_then ?_
 rcases Bool.eq_false_or_eq_true ((((!(decide (f.ID = m_prom))) || (decide (m_cur.ID = f.ID))) || (!(has f.Set ((m_self:Nat):Int)))) || (decide ((f.ID.P:Int) ≠ f.From))) with hc202 | hc202
 have hp202:(((¬ (f.ID = m_prom)) ∨ (m_cur.ID = f.ID)) ∨ (¬ ((has f.Set ((m_self:Nat):Int)) = true))) ∨ ((f.ID.P:Int) ≠ f.From):=((J_or (J_or (J_or (J_not decide_eq_true_iff) decide_eq_true_iff) (J_not Iff.rfl)) decide_eq_true_iff)).1 hc202
 refine c_cond_t (t:=true) (.tmp rfl (hρ197.trans (cVb hc202))) rfl ?_
 refine c_seq (c_region (st (v:=.slice none 0 0) (x_assign .const) ?_))
 refine st (v:=.pointer none) (x_assign .const) ?_
 refine st (v:=.int .i64 9) (x_assign .const) ?_
 refine c_nil (n_then (c_ret (r_then (r_block (r_then (leave_ret (res_three (v:=.slice none 0 0) (u:=.pointer none) (x:=.int .i64 9) rfl (.mk rfl rfl) (.mk rfl rfl) (.mk rfl rfl)) ?_))))))
 have hpq:(MB.inn (MB.mk m_n m_self m_cur m_prom m_high (some p_m) m_jl m_os) f sx) = _:=inn_com_bad hc59 hc68 hc92 hc116 hc151 hc185 hc202
 rw [hpq]
 have hs203:=hs201.krowNil 53 kOut
 have okm205:MemB H m_n m_self m_cur m_prom m_high A_m jn_m jc_m m_jl m_os:=⟨hn1_m,hn16_m,hsf_m,⟨ok_m.cur.n,ok_m.cur.p⟩,ok_m.set,⟨ok_m.prom.n,ok_m.prom.p⟩,ok_m.high,ok_m.joined,ok_m.len,ok_m.oth⟩
 have hs206:=hs203.p5
 have hs207:=hs206.p5
 have okp208:PropOk H p_m sv_m sc_m:=⟨⟨hk_m.id.n,hk_m.id.p⟩,hk_m.set,hk_m.who,hk_m.ok,hk_m.hk⟩
 have hs209:=hs207.p5
 have hs210:St H _ (row 53 16 (.slice none 0 0) (([]:List GOut).length) []::obj g42 37 (clState sx A34 n35 c36)::obj g38 51 (clFrame f A14 n15 c16 A19 n20 c21 A23 n24 c25)::memR 78 81 37 g_m gp_m A_m jn_m jc_m sv_m sc_m (MB.mk m_n m_self m_cur m_prom m_high (some p_m) m_jl m_os) ++ (L)):=St.foldS (TP:=81) (TS:=37) (gp:=gp_m) (sv:=sv_m) (sc:=sc_m) [row 53 16 (.slice none 0 0) (([]:List GOut).length) [],obj g42 37 (clState sx A34 n35 c36),obj g38 51 (clFrame f A14 n15 c16 A19 n20 c21 A23 n24 c25)] hs209
 exact ⟨H,(.slice none 0 0),[],(.pointer none),(MB.mk m_n m_self m_cur m_prom m_high (some p_m) m_jl m_os),gp_m,A_m,jn_m,jc_m,sv_m,sc_m,(Hp.le.refl _),rfl,(RowOk.knil kOut),(Kn.rows_nil _ _),InstAt.none',(okm205.okS okp208),rfl,((hs210.p1).drop.p1).drop⟩
 have hp202:¬ ((((¬ (f.ID = m_prom)) ∨ (m_cur.ID = f.ID)) ∨ (¬ ((has f.Set ((m_self:Nat):Int)) = true))) ∨ ((f.ID.P:Int) ≠ f.From)):=J_no (J_or (J_or (J_or (J_not decide_eq_true_iff) decide_eq_true_iff) (J_not Iff.rfl)) decide_eq_true_iff) hc202
 refine c_cond_f (t:=false) (.tmp rfl (hρ197.trans (cVb hc202))) rfl ?_
 refine c_skip (n_then (c_seq (c_region (st (v:=.pointer (some ⟨g_m,0,none⟩)) (x_move (.tmp rfl hρ198)) ?_))))
 refine st (v:=.pointer (some ⟨g38,0 + 2,none⟩)) (fa51_2 (.tmp rfl hρ199)) ?_
 refine st (v:=.agg #[.int .u64 ((f.ID.N:Nat):Int),.int .i64 f.ID.P]) (ld34 (cs:=[.int .u64 ((f.ID.N:Nat):Int),.int .i64 f.ID.P]) (.tmp rfl rfl) (hs201.at_ 1 rfl (0 + 2) rfl) rfl) ?_
 refine st (v:=.pointer (some ⟨g38,0 + 4,none⟩)) (fa51_3 (.tmp rfl hρ199)) ?_
 refine st (v:=.int .u16 ((f.Set:Nat):Int)) (ld31 (.tmp rfl rfl) (hs201.cell 1 rfl (0 + 4) rfl)) ?_
 refine st (v:=.agg #[.int .u64 ((f.ID.N:Nat):Int),.int .i64 f.ID.P,.int .u16 ((f.Set:Nat):Int)]) (bl39 (ps:=[(0,.agg #[.int .u64 ((f.ID.N:Nat):Int),.int .i64 f.ID.P]),(1,.int .u16 ((f.Set:Nat):Int))]) (.cons (.tmp rfl rfl) (.cons (.tmp rfl rfl) Evp.nil)) rfl) ?_
 refine st (v:=.pointer (some ⟨g_m,0,none⟩)) (x_nilCheck (.tmp rfl rfl)) ?_
 refine st (v:=.pointer (some ⟨g_m,0 + 2,none⟩)) (fa78_2 (.tmp rfl rfl)) ?_
 have hs211:=hs201.p2
 refine st_m0 (sto39 (cs':=((.int .i64 ((m_n:Nat):Int))::(.int .i64 ((m_self:Nat):Int))::(.int .u64 ((f.ID.N:Nat):Int))::(.int .i64 f.ID.P)::(.int .u16 ((f.Set:Nat):Int))::(.int .u64 ((m_prom.N:Nat):Int))::(.int .i64 m_prom.P)::(.int .u64 ((m_high:Nat):Int))::(.pointer (some ⟨gp_m,0,none⟩))::(.slice A_m jn_m jc_m)::oCells m_os)) (i:=0 + 2) hs211 (v:=.agg #[.int .u64 ((f.ID.N:Nat):Int),.int .i64 f.ID.P,.int .u16 ((f.Set:Nat):Int)]) (.tmp rfl rfl) (.tmp rfl rfl) rfl (Nat.le_of_ble_eq_true rfl) (oneA rfl) rfl) ?_
 rintro w212 hs214
 refine c_nil (n_then (c_seq (t_region (L:=obj g_m 78 ((.int .i64 ((m_n:Nat):Int))::(.int .i64 ((m_self:Nat):Int))::(.int .u64 ((f.ID.N:Nat):Int))::(.int .i64 f.ID.P)::(.int .u16 ((f.Set:Nat):Int))::(.int .u64 ((m_prom.N:Nat):Int))::(.int .i64 m_prom.P)::(.int .u64 ((m_high:Nat):Int))::(.pointer (some ⟨gp_m,0,none⟩))::(.slice A_m jn_m jc_m)::oCells m_os)::obj g42 37 (clState sx A34 n35 c36)::obj g38 51 (clFrame f A14 n15 c16 A19 n20 c21 A23 n24 c25)::obj gp_m 81 (clProp p_m sv_m)::row 37 4 sv_m p_m.states.length sc_m::L) (L':=obj g_m 78 ((.int .i64 ((m_n:Nat):Int))::(.int .i64 ((m_self:Nat):Int))::(.int .u64 ((f.ID.N:Nat):Int))::(.int .i64 f.ID.P)::(.int .u16 ((f.Set:Nat):Int))::(.int .u64 ((m_prom.N:Nat):Int))::(.int .i64 m_prom.P)::(.int .u64 ((m_high:Nat):Int))::(.pointer (some ⟨gp_m,0,none⟩))::(.slice A_m jn_m jc_m)::oCells m_os)::obj g42 37 (clState sx A34 n35 c36)::obj g38 51 (clFrame f A14 n15 c16 A19 n20 c21 A23 n24 c25)::obj gp_m 81 (clProp p_m sv_m)::row 37 4 sv_m p_m.states.length sc_m::L) (Z:=[]) (F:=[]) (pl:=(.q 0 (.q 1 (.q 2 (.q 3 (.q 4 (.q 5 (.q 6 (.q 8 (.e 7 (.q 9 (.q 10 .done)))))))))))) mixed hs214 (fun u hu => hu) (by kernel_rfl) ?_)))
 intro w215 hs216
 refine t_st (k:=0) (v:=.pointer (some ⟨g_m,0,none⟩)) rfl rfl (fun w hs => (x_move (.tmp rfl hρ198))) ?_
 refine t_st (k:=1) (v:=.pointer (some ⟨g_m,0,none⟩)) rfl rfl (fun w hs => (x_nilCheck (.tmp rfl rfl))) ?_
 refine t_st (k:=2) (v:=.pointer (some ⟨g_m,0 + 2,none⟩)) rfl rfl (fun w hs => (fa78_2 (.tmp rfl rfl))) ?_
 refine t_st (k:=3) (v:=.agg #[.int .u64 ((f.ID.N:Nat):Int),.int .i64 f.ID.P,.int .u16 ((f.Set:Nat):Int)]) rfl rfl (fun w hs => (ld39 (cs:=[.int .u64 ((f.ID.N:Nat):Int),.int .i64 f.ID.P,.int .u16 ((f.Set:Nat):Int)]) (.tmp rfl rfl) (hs.at_ 0 rfl (0 + 2) rfl) rfl)) ?_
 refine t_st (k:=4) (v:=.pointer (some ⟨g38,0 + 9,none⟩)) rfl rfl (fun w hs => (fa51_6 (.tmp rfl hρ199))) ?_
 refine t_st (k:=5) (v:=.slice A14 n15 c16) rfl rfl (fun w hs => (ld40 (.tmp rfl rfl) (hs.cell 2 rfl (0 + 9) rfl))) ?_
 refine t_st (k:=6) (v:=.agg #[.int .u64 ((f.ID.N:Nat):Int),.int .i64 f.ID.P,.int .u16 ((f.Set:Nat):Int),.slice A14 n15 c16]) rfl rfl (fun w hs => (bl42 (ps:=[(0,.agg #[.int .u64 ((f.ID.N:Nat):Int),.int .i64 f.ID.P,.int .u16 ((f.Set:Nat):Int)]),(1,.slice A14 n15 c16)]) (.cons (.tmp rfl rfl) (.cons (.tmp rfl rfl) Evp.nil)) rfl)) ?_
 refine t_st (k:=8) (v:=.slice none 0 0) rfl rfl (fun w hs => (x_assign .const)) ?_
 refine t_eff (k:=7) rfl ?_
 refine st_m (m_box (cs:=[.int .u64 ((f.ID.N:Nat):Int),.int .i64 f.ID.P,.int .u16 ((f.Set:Nat):Int),.slice A14 n15 c16]) hs216 (v:=.agg #[.int .u64 ((f.ID.N:Nat):Int),.int .i64 f.ID.P,.int .u16 ((f.Set:Nat):Int),.slice A14 n15 c16]) (.tmp rfl rfl) rfl) ?_
 rintro _ w218 ⟨g217,rfl,hs220⟩
 refine t_on (S':=fun u => St H u (obj g217 42 [.int .u64 ((f.ID.N:Nat):Int),.int .i64 f.ID.P,.int .u16 ((f.Set:Nat):Int),.slice A14 n15 c16]::obj g_m 78 ((.int .i64 ((m_n:Nat):Int))::(.int .i64 ((m_self:Nat):Int))::(.int .u64 ((f.ID.N:Nat):Int))::(.int .i64 f.ID.P)::(.int .u16 ((f.Set:Nat):Int))::(.int .u64 ((m_prom.N:Nat):Int))::(.int .i64 m_prom.P)::(.int .u64 ((m_high:Nat):Int))::(.pointer (some ⟨gp_m,0,none⟩))::(.slice A_m jn_m jc_m)::oCells m_os)::obj g42 37 (clState sx A34 n35 c36)::obj g38 51 (clFrame f A14 n15 c16 A19 n20 c21 A23 n24 c25)::obj gp_m 81 (clProp p_m sv_m)::row 37 4 sv_m p_m.states.length sc_m::L)) (fun u hu => hu.drop) hs220 ?_
 refine t_st (k:=9) (v:=.pointer (some ⟨g217,0,none⟩)) rfl rfl (fun w hs => (x_assign (.tmp rfl rfl))) ?_
 refine t_st (k:=10) (v:=.int .i64 0) rfl rfl (fun w hs => (x_assign .const)) ?_
 refine t_nil ?_
 refine n_then (c_ret (r_block (r_then (leave_ret (res_three (v:=.slice none 0 0) (u:=.pointer (some ⟨g217,0,none⟩)) (x:=.int .i64 0) rfl (.mk rfl rfl) (.mk rfl rfl) (.mk rfl rfl)) ?_))))
 have hr226:kInstall.rep H (GInstall.mk (GView.mk f.ID f.Set) f.States) [.int .u64 ((f.ID.N:Nat):Int),.int .i64 f.ID.P,.int .u16 ((f.Set:Nat):Int),.slice A14 n15 c16]:=⟨A14,n15,c16,rfl,b4,⟨b5,b6⟩,b7,hl17⟩
 obtain ⟨H221,hle222,hs223,rd224,hb225⟩:=hs220.freezeObj
 have hpq:(MB.inn (MB.mk m_n m_self m_cur m_prom m_high (some p_m) m_jl m_os) f sx) = _:=inn_com_ok hc59 hc68 hc92 hc116 hc151 hc185 hc202
 rw [hpq]
 have hs227:=hs223.krowNil 53 kOut
 have okm229:MemB H221 m_n m_self (GView.mk f.ID f.Set) m_prom m_high A_m jn_m jc_m m_jl m_os:=⟨hn1_m,hn16_m,hsf_m,⟨b4,⟨b5,b6⟩⟩,b7,⟨ok_m.prom.n,ok_m.prom.p⟩,ok_m.high,(ok_m.joined.mono hle222),ok_m.len,ok_m.oth⟩
 have hs230:=hs227.p5
 have hs231:=hs230.p5
 have okp232:PropOk H221 p_m sv_m sc_m:=⟨⟨hk_m.id.n,hk_m.id.p⟩,hk_m.set,hk_m.who,hk_m.ok,(Kn.rows_mono hk_m.hk hle222)⟩
 have hs233:=hs231.p3
 have hs234:St H221 _ (row 53 16 (.slice none 0 0) (([]:List GOut).length) []::obj g42 37 (clState sx A34 n35 c36)::obj g38 51 (clFrame f A14 n15 c16 A19 n20 c21 A23 n24 c25)::memR 78 81 37 g_m gp_m A_m jn_m jc_m sv_m sc_m (MB.mk m_n m_self (GView.mk f.ID f.Set) m_prom m_high (some p_m) m_jl m_os) ++ (L)):=St.foldS (TP:=81) (TS:=37) (gp:=gp_m) (sv:=sv_m) (sc:=sc_m) [row 53 16 (.slice none 0 0) (([]:List GOut).length) [],obj g42 37 (clState sx A34 n35 c36),obj g38 51 (clFrame f A14 n15 c16 A19 n20 c21 A23 n24 c25)] hs233
 exact ⟨H221,(.slice none 0 0),[],.pointer (some ⟨g217,0,none⟩),(MB.mk m_n m_self (GView.mk f.ID f.Set) m_prom m_high (some p_m) m_jl m_os),gp_m,A_m,jn_m,jc_m,sv_m,sc_m,hle222,rfl,(RowOk.knil kOut),(Kn.rows_nil _ _),(InstAt.some_of (y:=(GInstall.mk (GView.mk f.ID f.Set) f.States)) rfl rd224 (kInstall.mono hle222 hr226)),(okm229.okS okp232),rfl,((hs234.p1).drop.p1).drop⟩
 have hp185:¬ ((((f.Kind:Nat):Int):Int) = 5):=of_decide_eq_false hc185
 refine c_cond_f (t:=false) (.tmp rfl (cVb hc185)) rfl ?_
 refine c_skip (n_block (n_then (c_seq (c_region (st (v:=.slice none 0 0) (x_assign .const) ?_)))))
 refine st (v:=.pointer none) (x_assign .const) ?_
 refine st (v:=.int .i64 3) (x_assign .const) ?_
 refine c_nil (n_then (c_ret (leave_ret (res_three (v:=.slice none 0 0) (u:=.pointer none) (x:=.int .i64 3) rfl (.mk rfl rfl) (.mk rfl rfl) (.mk rfl rfl)) ?_)))
 have hpq:(MB.inn (MB.mk m_n m_self m_cur m_prom m_high (some p_m) m_jl m_os) f sx) = _:=inn_form hc59 hc68 hc92 hc116 hc151 hc185
 rw [hpq]
 have hs235:=hs58.krowNil 53 kOut
 have okm237:MemB H m_n m_self m_cur m_prom m_high A_m jn_m jc_m m_jl m_os:=⟨hn1_m,hn16_m,hsf_m,⟨ok_m.cur.n,ok_m.cur.p⟩,ok_m.set,⟨ok_m.prom.n,ok_m.prom.p⟩,ok_m.high,ok_m.joined,ok_m.len,ok_m.oth⟩
 have hs238:=hs235.p5
 have hs239:=hs238.p5
 have okp240:PropOk H p_m sv_m sc_m:=⟨⟨hk_m.id.n,hk_m.id.p⟩,hk_m.set,hk_m.who,hk_m.ok,hk_m.hk⟩
 have hs241:=hs239.p5
 have hs242:St H _ (row 53 16 (.slice none 0 0) (([]:List GOut).length) []::obj g42 37 (clState sx A34 n35 c36)::obj g38 51 (clFrame f A14 n15 c16 A19 n20 c21 A23 n24 c25)::memR 78 81 37 g_m gp_m A_m jn_m jc_m sv_m sc_m (MB.mk m_n m_self m_cur m_prom m_high (some p_m) m_jl m_os) ++ (L)):=St.foldS (TP:=81) (TS:=37) (gp:=gp_m) (sv:=sv_m) (sc:=sc_m) [row 53 16 (.slice none 0 0) (([]:List GOut).length) [],obj g42 37 (clState sx A34 n35 c36),obj g38 51 (clFrame f A14 n15 c16 A19 n20 c21 A23 n24 c25)] hs241
 exact ⟨H,(.slice none 0 0),[],(.pointer none),(MB.mk m_n m_self m_cur m_prom m_high (some p_m) m_jl m_os),gp_m,A_m,jn_m,jc_m,sv_m,sc_m,(Hp.le.refl _),rfl,(RowOk.knil kOut),(Kn.rows_nil _ _),InstAt.none',(okm237.okS okp240),rfl,((hs242.p1).drop.p1).drop⟩
end Go.Proofs.YtcccaihjgoaehaaDoor
