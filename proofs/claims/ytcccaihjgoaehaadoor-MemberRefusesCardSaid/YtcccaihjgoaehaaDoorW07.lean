/- Steps of the proofs over the functions of this seat, printed by a program (gen.py) and checked by Lean. -/
import Derived.Test.YtcccaihjgoaehaaDoorW01
import Derived.Test.YtcccaihjgoaehaaDoorW00
import Derived.Test.YtcccaihjgoaehaaDoorW06
set_option linter.unusedVariables false
set_option linter.unusedSimpArgs false
namespace Go.Proofs.YtcccaihjgoaehaaDoor
open Go Go.FM Go.Proofs
attribute [local irreducible] wpList wpQuiet wpS Code.wp Calls
set_option maxHeartbeats 8000000 in
theorem accept_N {H:Hp} {w:World} {L:List Res} {g_m m_n m_self m_high:Nat} {m_cur:GView} {m_prom:GViewID} {m_jl:List GState} {m_os:List (GViewID × GViewID)} {A_m:Option Addr} {jn_m jc_m:Nat} (hs:St H w (obj g_m 78 ((.int .i64 ((m_n:Nat):Int))::(.int .i64 ((m_self:Nat):Int))::(.int .u64 ((m_cur.ID.N:Nat):Int))::(.int .i64 m_cur.ID.P)::(.int .u16 ((m_cur.Set:Nat):Int))::(.int .u64 ((m_prom.N:Nat):Int))::(.int .i64 m_prom.P)::(.int .u64 ((m_high:Nat):Int))::(.pointer none)::(.slice A_m jn_m jc_m)::oCells m_os)::L)) (ok_m:MemB H m_n m_self m_cur m_prom m_high A_m jn_m jc_m m_jl m_os) (f:GFrame) {k_f:List Value} (h_f:kFrame.rep H f k_f):Calls Tryd.prog 32 #[.pointer (some ⟨g_m,0,none⟩),.agg k_f.toArray] w (fun e w' => ∃ (H':Hp) (v0:Value) (cs0:List Value) (iv1:Value),H.le H'∧e = .returned (.tuple #[v0,iv1,.int .i64 ((MB.accept (MB.mk m_n m_self m_cur m_prom m_high none m_jl m_os) f).2.2.2)])∧RowOk kOut.sz v0 ((MB.accept (MB.mk m_n m_self m_cur m_prom m_high none m_jl m_os) f).2.1).length cs0∧kOut.toKn.rows H' ((MB.accept (MB.mk m_n m_self m_cur m_prom m_high none m_jl m_os) f).2.1) cs0∧InstAt H' ((MB.accept (MB.mk m_n m_self m_cur m_prom m_high none m_jl m_os) f).2.2.1) iv1∧MemB H' m_n m_self m_cur m_prom m_high A_m jn_m jc_m m_jl m_os∧(MB.mk m_n m_self m_cur m_prom m_high none m_jl m_os) = (MB.accept (MB.mk m_n m_self m_cur m_prom m_high none m_jl m_os) f).1∧St H' w' (row 53 kOut.sz v0 ((MB.accept (MB.mk m_n m_self m_cur m_prom m_high none m_jl m_os) f).2.1).length cs0::obj g_m 78 ((.int .i64 ((m_n:Nat):Int))::(.int .i64 ((m_self:Nat):Int))::(.int .u64 ((m_cur.ID.N:Nat):Int))::(.int .i64 m_cur.ID.P)::(.int .u16 ((m_cur.Set:Nat):Int))::(.int .u64 ((m_prom.N:Nat):Int))::(.int .i64 m_prom.P)::(.int .u64 ((m_high:Nat):Int))::(.pointer none)::(.slice A_m jn_m jc_m)::oCells m_os)::L)):=by
 have hn1_m:1 ≤ m_n:=ok_m.n1
 have hn16_m:m_n ≤ 16:=ok_m.n16
 have hsf_m:m_self < m_n:=ok_m.self
 have hol_m:m_os.length = 16:=ok_m.len
 have hhi_m:m_high < 18446744073709551616:=ok_m.high
 obtain ⟨A14,n15,c16,A19,n20,c21,A23,n24,c25,rfl,b1,⟨b2,b3⟩,b4,⟨b5,b6⟩,b7,b8,⟨b9,b10⟩,b11,⟨b12,b13⟩,hl17,b18,hl22,hl26,b27,b28⟩:=h_f
 have:=hl17.len; have:n15 * 48 ≤ 140737488351232:=hl17.bnd; have:=hl17.le
 have:=hl22.len; have:n20 * 24 ≤ 140737488351232:=hl22.bnd; have:=hl22.le
 have:=hl26.len; have:n24 * 32 ≤ 140737488351232:=hl26.bnd; have:=hl26.le
 refine enter (args:=[.pointer (some ⟨g_m,0,none⟩),.agg #[.int .u8 ((f.Kind:Nat):Int),.int .i64 f.From,.int .u64 ((f.ID.N:Nat):Int),.int .i64 f.ID.P,.int .u16 ((f.Set:Nat):Int),.int .u64 ((f.Cur.N:Nat):Int),.int .i64 f.Cur.P,.int .u64 ((f.Prom.N:Nat):Int),.int .i64 f.Prom.P,.slice A14 n15 c16,.int .u64 ((f.Base:Nat):Int),.slice A19 n20 c21,.slice A23 n24 c25,.int .u64 ((f.Ack:Nat):Int),.int .u64 ((f.Safe:Nat):Int)]]) (N:=121) Tryd.func32 rfl rfl rfl ?_
 refine c_seq (c_region (st_m (m_box (cs:=[.int .u8 ((f.Kind:Nat):Int),.int .i64 f.From,.int .u64 ((f.ID.N:Nat):Int),.int .i64 f.ID.P,.int .u16 ((f.Set:Nat):Int),.int .u64 ((f.Cur.N:Nat):Int),.int .i64 f.Cur.P,.int .u64 ((f.Prom.N:Nat):Int),.int .i64 f.Prom.P,.slice A14 n15 c16,.int .u64 ((f.Base:Nat):Int),.slice A19 n20 c21,.slice A23 n24 c25,.int .u64 ((f.Ack:Nat):Int),.int .u64 ((f.Safe:Nat):Int)]) hs (v:=.agg #[.int .u8 ((f.Kind:Nat):Int),.int .i64 f.From,.int .u64 ((f.ID.N:Nat):Int),.int .i64 f.ID.P,.int .u16 ((f.Set:Nat):Int),.int .u64 ((f.Cur.N:Nat):Int),.int .i64 f.Cur.P,.int .u64 ((f.Prom.N:Nat):Int),.int .i64 f.Prom.P,.slice A14 n15 c16,.int .u64 ((f.Base:Nat):Int),.slice A19 n20 c21,.slice A23 n24 c25,.int .u64 ((f.Ack:Nat):Int),.int .u64 ((f.Safe:Nat):Int)]) (.tmp rfl rfl) rfl) ?_))
 rintro _ w30 ⟨g29,rfl,hs32⟩
 refine st (v:=.slice none 0 0) (x_assign .const) ?_
 refine st (v:=.pointer none) (x_assign .const) ?_
 refine st (v:=.int .i64 0) (x_assign .const) ?_
 refine c_nil (n_then (c_seq (c_region (st (v:=.pointer (some ⟨g_m,0,none⟩)) (x_move (.tmp rfl rfl)) ?_))))
 refine st (v:=.pointer (some ⟨g_m,0,none⟩)) (x_nilCheck (.tmp rfl rfl)) ?_
 refine st (v:=.pointer (some ⟨g_m,0 + 8,none⟩)) (fa78_5 (.tmp rfl rfl)) ?_
 refine st (v:=.pointer none) (ld75 (.tmp rfl rfl) (hs32.cell 1 rfl (0 + 8) rfl)) ?_
 refine st (v:=.pointer none) (x_assign (.tmp rfl rfl)) ?_
 refine c_nil (n_then (c_seq (c_seq (q_region mixed hs32 (by kernel_rfl) ?_))))
 refine q_st (v:=.pointer none) (fun w hs => (x_move (.tmp rfl rfl))) ?_
 refine q_st (v:=.bool true) (fun w hs => (x_eqlP Tryd.underlying75 (.tmp rfl rfl) .const rfl)) ?_
 refine q_st (v:=.bool true) (fun w hs => (x_move (.tmp rfl rfl))) ?_
 refine q_no (yl (dj:=18) (b:=true) rfl rfl rfl) rfl ?_
 refine q_no (yl (dj:=18) (b:=true) rfl rfl rfl) rfl ?_
 refine q_no (yl (dj:=18) (b:=true) rfl rfl rfl) rfl ?_
 refine q_no (yl (dj:=18) (b:=true) rfl rfl rfl) rfl ?_
 refine q_st (v:=.bool true) (fun w hs => (x_pick_t (.tmp rfl rfl) .const)) ?_
 refine q_st (v:=.bool true) (fun w hs => (x_move (.tmp rfl rfl))) ?_
 refine q_no (yl (dj:=24) (b:=true) rfl rfl rfl) rfl ?_
 refine q_no (yl (dj:=24) (b:=true) rfl rfl rfl) rfl ?_
 refine q_no (yl (dj:=24) (b:=true) rfl rfl rfl) rfl ?_
 refine q_no (yl (dj:=24) (b:=true) rfl rfl rfl) rfl ?_
 refine q_no (yl (dj:=24) (b:=true) rfl rfl rfl) rfl ?_
 refine q_no (yl (dj:=24) (b:=true) rfl rfl rfl) rfl ?_
 refine q_no (yl (dj:=24) (b:=true) rfl rfl rfl) rfl ?_
 refine q_no (yl (dj:=24) (b:=true) rfl rfl rfl) rfl ?_
 refine q_st (v:=.bool true) (fun w hs => (x_pick_t (.tmp rfl rfl) .const)) ?_
 refine q_st (v:=.bool true) (fun w hs => (x_move (.tmp rfl rfl))) ?_
 refine q_no (yl (dj:=34) (b:=true) rfl rfl rfl) rfl ?_
 refine q_no (yl (dj:=34) (b:=true) rfl rfl rfl) rfl ?_
 refine q_no (yl (dj:=34) (b:=true) rfl rfl rfl) rfl ?_
 refine q_no (yl (dj:=34) (b:=true) rfl rfl rfl) rfl ?_
 refine q_no (yl (dj:=34) (b:=true) rfl rfl rfl) rfl ?_
 refine q_no (yl (dj:=34) (b:=true) rfl rfl rfl) rfl ?_
 refine q_no (yl (dj:=34) (b:=true) rfl rfl rfl) rfl ?_
 refine q_st (v:=.bool true) (fun w hs => (x_pick_t (.tmp rfl rfl) .const)) ?_
 refine q_st (v:=.bool true) (fun w hs => (x_move (.tmp rfl rfl))) ?_
 refine q_no (yl (dj:=43) (b:=true) rfl rfl rfl) rfl ?_
 refine q_no (yl (dj:=43) (b:=true) rfl rfl rfl) rfl ?_
 refine q_no (yl (dj:=43) (b:=true) rfl rfl rfl) rfl ?_
 refine q_no (yl (dj:=43) (b:=true) rfl rfl rfl) rfl ?_
 refine q_no (yl (dj:=43) (b:=true) rfl rfl rfl) rfl ?_
 refine q_no (yl (dj:=43) (b:=true) rfl rfl rfl) rfl ?_
 refine q_no (yl (dj:=43) (b:=true) rfl rfl rfl) rfl ?_
 refine q_no (yl (dj:=43) (b:=true) rfl rfl rfl) rfl ?_
 refine q_no (yl (dj:=43) (b:=true) rfl rfl rfl) rfl ?_
 refine q_st (v:=.bool true) (fun w hs => (x_pick_t (.tmp rfl rfl) .const)) ?_
 refine q_st (v:=.bool true) (fun w hs => (x_move (.tmp rfl rfl))) ?_
 refine q_no (yl (dj:=54) (b:=true) rfl rfl rfl) rfl ?_
 refine q_no (yl (dj:=54) (b:=true) rfl rfl rfl) rfl ?_
 refine q_no (yl (dj:=54) (b:=true) rfl rfl rfl) rfl ?_
 refine q_no (yl (dj:=54) (b:=true) rfl rfl rfl) rfl ?_
 refine q_no (yl (dj:=54) (b:=true) rfl rfl rfl) rfl ?_
 refine q_no (yl (dj:=54) (b:=true) rfl rfl rfl) rfl ?_
 refine q_no (yl (dj:=54) (b:=true) rfl rfl rfl) rfl ?_
 refine q_st (v:=.bool true) (fun w hs => (x_pick_t (.tmp rfl rfl) .const)) ?_
 refine q_st (v:=.bool true) (fun w hs => (x_move (.tmp rfl rfl))) ?_
 refine q_no (yl (dj:=63) (b:=true) rfl rfl rfl) rfl ?_
 refine q_no (yl (dj:=63) (b:=true) rfl rfl rfl) rfl ?_
 refine q_no (yl (dj:=63) (b:=true) rfl rfl rfl) rfl ?_
 refine q_no (yl (dj:=63) (b:=true) rfl rfl rfl) rfl ?_
 refine q_st (v:=.bool true) (fun w hs => (x_pick_t (.tmp rfl rfl) .const)) ?_
 refine q_nil ?_
 intro w hs33
 refine n_then (c_cond_t (t:=true) (.tmp rfl rfl) rfl ?_)
 refine c_seq (c_region (st (v:=.slice none 0 0) (x_assign .const) ?_))
 refine st (v:=.pointer none) (x_assign .const) ?_
 refine st (v:=.int .i64 9) (x_assign .const) ?_
 refine c_nil (n_then (c_ret (r_then (leave_ret (res_three (v:=.slice none 0 0) (u:=.pointer none) (x:=.int .i64 9) rfl (.mk rfl rfl) (.mk rfl rfl) (.mk rfl rfl)) ?_))))
 have hpq:(MB.accept (MB.mk m_n m_self m_cur m_prom m_high none m_jl m_os) f) = _:=rfl
 rw [hpq]
 have hs34:St H _ (row 53 16 (.slice none 0 0) (([]:List GOut).length) []::obj g29 51 [.int .u8 ((f.Kind:Nat):Int),.int .i64 f.From,.int .u64 ((f.ID.N:Nat):Int),.int .i64 f.ID.P,.int .u16 ((f.Set:Nat):Int),.int .u64 ((f.Cur.N:Nat):Int),.int .i64 f.Cur.P,.int .u64 ((f.Prom.N:Nat):Int),.int .i64 f.Prom.P,.slice A14 n15 c16,.int .u64 ((f.Base:Nat):Int),.slice A19 n20 c21,.slice A23 n24 c25,.int .u64 ((f.Ack:Nat):Int),.int .u64 ((f.Safe:Nat):Int)]::obj g_m 78 ((.int .i64 ((m_n:Nat):Int))::(.int .i64 ((m_self:Nat):Int))::(.int .u64 ((m_cur.ID.N:Nat):Int))::(.int .i64 m_cur.ID.P)::(.int .u16 ((m_cur.Set:Nat):Int))::(.int .u64 ((m_prom.N:Nat):Int))::(.int .i64 m_prom.P)::(.int .u64 ((m_high:Nat):Int))::(.pointer none)::(.slice A_m jn_m jc_m)::oCells m_os)::L):=hs33.krowNil 53 kOut
 have okm36:MemB H m_n m_self m_cur m_prom m_high A_m jn_m jc_m m_jl m_os:=⟨hn1_m,hn16_m,hsf_m,⟨ok_m.cur.n,ok_m.cur.p⟩,ok_m.set,⟨ok_m.prom.n,ok_m.prom.p⟩,ok_m.high,ok_m.joined,ok_m.len,ok_m.oth⟩
 exact ⟨H,(.slice none 0 0),[],(.pointer none),(Hp.le.refl _),rfl,(RowOk.knil kOut),(Kn.rows_nil _ _),InstAt.none',okm36,rfl,(((hs34.p1).drop.p1).p1)⟩
set_option maxHeartbeats 8000000 in
theorem accept_S {H:Hp} {w:World} {L:List Res} {g_m m_n m_self m_high:Nat} {m_cur:GView} {m_prom:GViewID} {m_jl:List GState} {m_os:List (GViewID × GViewID)} {A_m:Option Addr} {jn_m jc_m:Nat} {gp_m:Nat} {p_m:GProp} {sv_m:Value} {sc_m:List Value} (hs:St H w (obj g_m 78 ((.int .i64 ((m_n:Nat):Int))::(.int .i64 ((m_self:Nat):Int))::(.int .u64 ((m_cur.ID.N:Nat):Int))::(.int .i64 m_cur.ID.P)::(.int .u16 ((m_cur.Set:Nat):Int))::(.int .u64 ((m_prom.N:Nat):Int))::(.int .i64 m_prom.P)::(.int .u64 ((m_high:Nat):Int))::(.pointer (some ⟨gp_m,0,none⟩))::(.slice A_m jn_m jc_m)::oCells m_os)::obj gp_m 81 [.int .u64 ((p_m.v.ID.N:Nat):Int),.int .i64 p_m.v.ID.P,.int .u16 ((p_m.v.Set:Nat):Int),.int .u16 ((p_m.who:Nat):Int),sv_m,.bool p_m.done]::row 37 4 sv_m p_m.states.length sc_m::L)) (ok_m:MemB H m_n m_self m_cur m_prom m_high A_m jn_m jc_m m_jl m_os) (hk_m:PropOk H p_m sv_m sc_m) (f:GFrame) {k_f:List Value} (h_f:kFrame.rep H f k_f) (hpl:p_m.states.length ≤ 900000) (hb:∀ s ∈ p_m.states,0 ≤ s.Floor∧s.Floor ≤ 1073741824) (hbf:∀ s ∈ f.States,0 ≤ s.Floor∧s.Floor ≤ 1073741824) (htab:Tab H):Calls Tryd.prog 32 #[.pointer (some ⟨g_m,0,none⟩),.agg k_f.toArray] w (fun e w' => ∃ (H':Hp) (v0:Value) (cs0:List Value) (iv1:Value) (m_cur':GView) (m_jl':List GState) (A_m':Option Addr) (jn_m' jc_m':Nat) (p_m':GProp) (sv_m':Value) (sc_m':List Value),H.le H'∧e = .returned (.tuple #[v0,iv1,.int .i64 ((MB.accept (MB.mk m_n m_self m_cur m_prom m_high (some p_m) m_jl m_os) f).2.2.2)])∧RowOk kOut.sz v0 ((MB.accept (MB.mk m_n m_self m_cur m_prom m_high (some p_m) m_jl m_os) f).2.1).length cs0∧kOut.toKn.rows H' ((MB.accept (MB.mk m_n m_self m_cur m_prom m_high (some p_m) m_jl m_os) f).2.1) cs0∧InstAt H' ((MB.accept (MB.mk m_n m_self m_cur m_prom m_high (some p_m) m_jl m_os) f).2.2.1) iv1∧MemB H' m_n m_self m_cur' m_prom m_high A_m' jn_m' jc_m' m_jl' m_os∧PropOk H' p_m' sv_m' sc_m'∧(MB.mk m_n m_self m_cur' m_prom m_high (some p_m') m_jl' m_os) = (MB.accept (MB.mk m_n m_self m_cur m_prom m_high (some p_m) m_jl m_os) f).1∧St H' w' (row 53 kOut.sz v0 ((MB.accept (MB.mk m_n m_self m_cur m_prom m_high (some p_m) m_jl m_os) f).2.1).length cs0::obj g_m 78 ((.int .i64 ((m_n:Nat):Int))::(.int .i64 ((m_self:Nat):Int))::(.int .u64 ((m_cur'.ID.N:Nat):Int))::(.int .i64 m_cur'.ID.P)::(.int .u16 ((m_cur'.Set:Nat):Int))::(.int .u64 ((m_prom.N:Nat):Int))::(.int .i64 m_prom.P)::(.int .u64 ((m_high:Nat):Int))::(.pointer (some ⟨gp_m,0,none⟩))::(.slice A_m' jn_m' jc_m')::oCells m_os)::obj gp_m 81 [.int .u64 ((p_m'.v.ID.N:Nat):Int),.int .i64 p_m'.v.ID.P,.int .u16 ((p_m'.v.Set:Nat):Int),.int .u16 ((p_m'.who:Nat):Int),sv_m',.bool p_m'.done]::row 37 4 sv_m' p_m'.states.length sc_m'::L)):=by
 have hn1_m:1 ≤ m_n:=ok_m.n1
 have hn16_m:m_n ≤ 16:=ok_m.n16
 have hsf_m:m_self < m_n:=ok_m.self
 have hol_m:m_os.length = 16:=ok_m.len
 have hhi_m:m_high < 18446744073709551616:=ok_m.high
 obtain ⟨A14,n15,c16,A19,n20,c21,A23,n24,c25,rfl,b1,⟨b2,b3⟩,b4,⟨b5,b6⟩,b7,b8,⟨b9,b10⟩,b11,⟨b12,b13⟩,hl17,b18,hl22,hl26,b27,b28⟩:=h_f
 have:=hl17.len; have:n15 * 48 ≤ 140737488351232:=hl17.bnd; have:=hl17.le
 have:=hl22.len; have:n20 * 24 ≤ 140737488351232:=hl22.bnd; have:=hl22.le
 have:=hl26.len; have:n24 * 32 ≤ 140737488351232:=hl26.bnd; have:=hl26.le
 refine enter (args:=[.pointer (some ⟨g_m,0,none⟩),.agg #[.int .u8 ((f.Kind:Nat):Int),.int .i64 f.From,.int .u64 ((f.ID.N:Nat):Int),.int .i64 f.ID.P,.int .u16 ((f.Set:Nat):Int),.int .u64 ((f.Cur.N:Nat):Int),.int .i64 f.Cur.P,.int .u64 ((f.Prom.N:Nat):Int),.int .i64 f.Prom.P,.slice A14 n15 c16,.int .u64 ((f.Base:Nat):Int),.slice A19 n20 c21,.slice A23 n24 c25,.int .u64 ((f.Ack:Nat):Int),.int .u64 ((f.Safe:Nat):Int)]]) (N:=121) Tryd.func32 rfl rfl rfl ?_
 refine c_seq (c_region (st_m (m_box (cs:=[.int .u8 ((f.Kind:Nat):Int),.int .i64 f.From,.int .u64 ((f.ID.N:Nat):Int),.int .i64 f.ID.P,.int .u16 ((f.Set:Nat):Int),.int .u64 ((f.Cur.N:Nat):Int),.int .i64 f.Cur.P,.int .u64 ((f.Prom.N:Nat):Int),.int .i64 f.Prom.P,.slice A14 n15 c16,.int .u64 ((f.Base:Nat):Int),.slice A19 n20 c21,.slice A23 n24 c25,.int .u64 ((f.Ack:Nat):Int),.int .u64 ((f.Safe:Nat):Int)]) hs (v:=.agg #[.int .u8 ((f.Kind:Nat):Int),.int .i64 f.From,.int .u64 ((f.ID.N:Nat):Int),.int .i64 f.ID.P,.int .u16 ((f.Set:Nat):Int),.int .u64 ((f.Cur.N:Nat):Int),.int .i64 f.Cur.P,.int .u64 ((f.Prom.N:Nat):Int),.int .i64 f.Prom.P,.slice A14 n15 c16,.int .u64 ((f.Base:Nat):Int),.slice A19 n20 c21,.slice A23 n24 c25,.int .u64 ((f.Ack:Nat):Int),.int .u64 ((f.Safe:Nat):Int)]) (.tmp rfl rfl) rfl) ?_))
 rintro _ w30 ⟨g29,rfl,hs32⟩
 refine st (v:=.slice none 0 0) (x_assign .const) ?_
 refine st (v:=.pointer none) (x_assign .const) ?_
 refine st (v:=.int .i64 0) (x_assign .const) ?_
 refine c_nil (n_then (c_seq (c_region (st (v:=.pointer (some ⟨g_m,0,none⟩)) (x_move (.tmp rfl rfl)) ?_))))
 refine st (v:=.pointer (some ⟨g_m,0,none⟩)) (x_nilCheck (.tmp rfl rfl)) ?_
 refine st (v:=.pointer (some ⟨g_m,0 + 8,none⟩)) (fa78_5 (.tmp rfl rfl)) ?_
 refine st (v:=.pointer (some ⟨gp_m,0,none⟩)) (ld75 (.tmp rfl rfl) (hs32.cell 1 rfl (0 + 8) rfl)) ?_
 refine st (v:=.pointer (some ⟨gp_m,0,none⟩)) (x_assign (.tmp rfl rfl)) ?_
 refine c_nil (n_then (c_seq (c_seq (q_region mixed hs32 (by kernel_rfl) ?_))))
 refine q_st (v:=.pointer (some ⟨gp_m,0,none⟩)) (fun w hs => (x_move (.tmp rfl rfl))) ?_
 refine q_st (v:=.bool false) (fun w hs => (x_eqlP Tryd.underlying75 (.tmp rfl rfl) .const rfl)) ?_
 refine q_st (v:=.bool false) (fun w hs => (x_move (.tmp rfl rfl))) ?_
 refine q_yes (yl (dj:=18) (b:=false) rfl rfl rfl) ?_
 refine q_st (v:=.pointer (some ⟨gp_m,0,none⟩)) (fun w hs => (x_move (.tmp rfl rfl))) ?_
 refine q_yes (yl (dj:=18) (b:=false) rfl rfl rfl) ?_
 refine q_st (v:=.pointer (some ⟨gp_m,0,none⟩)) (fun w hs => (x_nilCheck (.tmp rfl rfl))) ?_
 refine q_yes (yl (dj:=18) (b:=false) rfl rfl rfl) ?_
 refine q_st (v:=.pointer (some ⟨gp_m,0 + 5,none⟩)) (fun w hs => (fa81_3 (.tmp rfl rfl))) ?_
 refine q_yes (yl (dj:=18) (b:=false) rfl rfl rfl) ?_
 refine q_st (v:=.bool p_m.done) (fun w hs => (ld4 (.tmp rfl rfl) (hs.cell 2 rfl (0 + 5) rfl))) ?_
 refine q_st (v:=.bool p_m.done) (fun w hs => (x_pick_f (.tmp rfl rfl) (.tmp rfl rfl))) ?_
 refine q_st (v:=.bool p_m.done) (fun w hs => (x_move (.tmp rfl rfl))) ?_
 refine jq 9 (fun ρ => ρ 33 = .bool (p_m.done || (!(decide (p_m.v.ID = f.ID))))∧ρ 0 = .pointer (some ⟨g_m,0,none⟩)∧ρ 3 = .pointer (some ⟨g29,0,none⟩)∧ρ 7 = .pointer (some ⟨gp_m,0,none⟩)∧True) ?_ ?_
 rcases Bool.eq_false_or_eq_true p_m.done with hc33 | hc33
 refine q_no (yk 24 true rfl rfl hc33) rfl ?_
 refine q_no (yk 24 true rfl rfl hc33) rfl ?_
 refine q_no (yk 24 true rfl rfl hc33) rfl ?_
 refine q_no (yk 24 true rfl rfl hc33) rfl ?_
 refine q_no (yk 24 true rfl rfl hc33) rfl ?_
 refine q_no (yk 24 true rfl rfl hc33) rfl ?_
 refine q_no (yk 24 true rfl rfl hc33) rfl ?_
 refine q_no (yk 24 true rfl rfl hc33) rfl ?_
 refine q_st (v:=.bool true) (fun w hs => (x_pick_t (.tmp rfl (cVb hc33)) .const)) ?_
 exact jq_end ⟨(cVb (jor_t hc33)),rfl,rfl,rfl,True.intro⟩
 refine q_yes (yk 24 false rfl rfl hc33) ?_
 refine q_st (v:=.pointer (some ⟨gp_m,0,none⟩)) (fun w hs => (x_move (.tmp rfl rfl))) ?_
 refine q_yes (yk 24 false rfl rfl hc33) ?_
 refine q_st (v:=.pointer (some ⟨gp_m,0,none⟩)) (fun w hs => (x_nilCheck (.tmp rfl rfl))) ?_
 refine q_yes (yk 24 false rfl rfl hc33) ?_
 refine q_st (v:=.pointer (some ⟨gp_m,0 + 0,none⟩)) (fun w hs => (fa81_0 (.tmp rfl rfl))) ?_
 refine q_yes (yk 24 false rfl rfl hc33) ?_
 refine q_st (v:=.pointer (some ⟨gp_m,0 + 0 + 0,none⟩)) (fun w hs => (fa39_0 (.tmp rfl rfl))) ?_
 refine q_yes (yk 24 false rfl rfl hc33) ?_
 refine q_st (v:=.agg #[.int .u64 ((p_m.v.ID.N:Nat):Int),.int .i64 p_m.v.ID.P]) (fun w hs => (ld34 (cs:=[.int .u64 ((p_m.v.ID.N:Nat):Int),.int .i64 p_m.v.ID.P]) (.tmp rfl rfl) (hs.at_ 2 rfl (0 + 0 + 0) rfl) rfl)) ?_
 refine q_yes (yk 24 false rfl rfl hc33) ?_
 refine q_st (v:=.pointer (some ⟨g29,0 + 2,none⟩)) (fun w hs => (fa51_2 (.tmp rfl rfl))) ?_
 refine q_yes (yk 24 false rfl rfl hc33) ?_
 refine q_st (v:=.agg #[.int .u64 ((f.ID.N:Nat):Int),.int .i64 f.ID.P]) (fun w hs => (ld34 (cs:=[.int .u64 ((f.ID.N:Nat):Int),.int .i64 f.ID.P]) (.tmp rfl rfl) (hs.at_ 0 rfl (0 + 2) rfl) rfl)) ?_
 refine q_yes (yk 24 false rfl rfl hc33) ?_
 refine q_st (v:=.bool (!((((p_m.v.ID.N:Nat):Int) == ((f.ID.N:Nat):Int)) && ((p_m.v.ID.P == f.ID.P) && true)))) (fun w hs => (x_neqA eqg34 (.tmp rfl rfl) (.tmp rfl rfl) (fun d => eqs34 (d + 98) _ ((p_m.v.ID.N:Nat):Int) ((f.ID.N:Nat):Int) p_m.v.ID.P f.ID.P))) ?_
 refine q_st (v:=.bool (!(decide (p_m.v.ID = f.ID)))) (fun w hs => (x_pick_f (.tmp rfl (cVb hc33)) (.tmp rfl (congrArg (fun z => Value.bool (!z)) (GViewID.beq_dec p_m.v.ID f.ID))))) ?_
 exact jq_end ⟨(cVb (jor_f hc33)),rfl,rfl,rfl,True.intro⟩
 rintro ρ ⟨hρ34,hρ35,hρ36,hρ37,_⟩
 refine q_st (v:=.bool (p_m.done || (!(decide (p_m.v.ID = f.ID))))) (fun w hs => (x_move (.tmp rfl hρ34))) ?_
 refine jq 8 (fun ρ => ρ 42 = .bool ((p_m.done || (!(decide (p_m.v.ID = f.ID)))) || (!(decide (m_prom = f.ID))))∧ρ 0 = .pointer (some ⟨g_m,0,none⟩)∧ρ 3 = .pointer (some ⟨g29,0,none⟩)∧ρ 7 = .pointer (some ⟨gp_m,0,none⟩)∧True) ?_ ?_
 rcases Bool.eq_false_or_eq_true (p_m.done || (!(decide (p_m.v.ID = f.ID)))) with hc39 | hc39
 have hp39:(p_m.done = true) ∨ (¬ (p_m.v.ID = f.ID)):=((J_or Iff.rfl (J_not decide_eq_true_iff))).1 hc39
 refine q_no (yk 34 true rfl rfl hc39) rfl ?_
 refine q_no (yk 34 true rfl rfl hc39) rfl ?_
 refine q_no (yk 34 true rfl rfl hc39) rfl ?_
 refine q_no (yk 34 true rfl rfl hc39) rfl ?_
 refine q_no (yk 34 true rfl rfl hc39) rfl ?_
 refine q_no (yk 34 true rfl rfl hc39) rfl ?_
 refine q_no (yk 34 true rfl rfl hc39) rfl ?_
 refine q_st (v:=.bool true) (fun w hs => (x_pick_t (.tmp rfl (cVb hc39)) .const)) ?_
 exact jq_end ⟨(cVb (jor_t hc39)),hρ35,hρ36,hρ37,True.intro⟩
 have hp39:¬ ((p_m.done = true) ∨ (¬ (p_m.v.ID = f.ID))):=J_no (J_or Iff.rfl (J_not decide_eq_true_iff)) hc39
 refine q_yes (yk 34 false rfl rfl hc39) ?_
 refine q_st (v:=.pointer (some ⟨g_m,0,none⟩)) (fun w hs => (x_move (.tmp rfl hρ35))) ?_
 refine q_yes (yk 34 false rfl rfl hc39) ?_
 refine q_st (v:=.pointer (some ⟨g_m,0,none⟩)) (fun w hs => (x_nilCheck (.tmp rfl rfl))) ?_
 refine q_yes (yk 34 false rfl rfl hc39) ?_
 refine q_st (v:=.pointer (some ⟨g_m,0 + 5,none⟩)) (fun w hs => (fa78_3 (.tmp rfl rfl))) ?_
 refine q_yes (yk 34 false rfl rfl hc39) ?_
 refine q_st (v:=.agg #[.int .u64 ((m_prom.N:Nat):Int),.int .i64 m_prom.P]) (fun w hs => (ld34 (cs:=[.int .u64 ((m_prom.N:Nat):Int),.int .i64 m_prom.P]) (.tmp rfl rfl) (hs.at_ 1 rfl (0 + 5) rfl) rfl)) ?_
 refine q_yes (yk 34 false rfl rfl hc39) ?_
 refine q_st (v:=.pointer (some ⟨g29,0 + 2,none⟩)) (fun w hs => (fa51_2 (.tmp rfl hρ36))) ?_
 refine q_yes (yk 34 false rfl rfl hc39) ?_
 refine q_st (v:=.agg #[.int .u64 ((f.ID.N:Nat):Int),.int .i64 f.ID.P]) (fun w hs => (ld34 (cs:=[.int .u64 ((f.ID.N:Nat):Int),.int .i64 f.ID.P]) (.tmp rfl rfl) (hs.at_ 0 rfl (0 + 2) rfl) rfl)) ?_
 refine q_yes (yk 34 false rfl rfl hc39) ?_
 refine q_st (v:=.bool (!((((m_prom.N:Nat):Int) == ((f.ID.N:Nat):Int)) && ((m_prom.P == f.ID.P) && true)))) (fun w hs => (x_neqA eqg34 (.tmp rfl rfl) (.tmp rfl rfl) (fun d => eqs34 (d + 98) _ ((m_prom.N:Nat):Int) ((f.ID.N:Nat):Int) m_prom.P f.ID.P))) ?_
 refine q_st (v:=.bool (!(decide (m_prom = f.ID)))) (fun w hs => (x_pick_f (.tmp rfl (cVb hc39)) (.tmp rfl (congrArg (fun z => Value.bool (!z)) (GViewID.beq_dec m_prom f.ID))))) ?_
 exact jq_end ⟨(cVb (jor_f hc39)),hρ35,hρ36,hρ37,True.intro⟩
 rintro ρ ⟨hρ40,hρ41,hρ42,hρ43,_⟩
 refine q_st (v:=.bool ((p_m.done || (!(decide (p_m.v.ID = f.ID)))) || (!(decide (m_prom = f.ID))))) (fun w hs => (x_move (.tmp rfl hρ40))) ?_
 refine jq 10 (fun ρ => ρ 53 = .bool (((p_m.done || (!(decide (p_m.v.ID = f.ID)))) || (!(decide (m_prom = f.ID)))) || (!(has p_m.v.Set f.From)))∧ρ 0 = .pointer (some ⟨g_m,0,none⟩)∧ρ 3 = .pointer (some ⟨g29,0,none⟩)∧ρ 7 = .pointer (some ⟨gp_m,0,none⟩)∧True) ?_ ?_
 rcases Bool.eq_false_or_eq_true ((p_m.done || (!(decide (p_m.v.ID = f.ID)))) || (!(decide (m_prom = f.ID)))) with hc45 | hc45
 have hp45:((p_m.done = true) ∨ (¬ (p_m.v.ID = f.ID))) ∨ (¬ (m_prom = f.ID)):=((J_or (J_or Iff.rfl (J_not decide_eq_true_iff)) (J_not decide_eq_true_iff))).1 hc45
 refine q_no (yk 43 true rfl rfl hc45) rfl ?_
 refine q_no (yk 43 true rfl rfl hc45) rfl ?_
 refine q_no (yk 43 true rfl rfl hc45) rfl ?_
 refine q_no (yk 43 true rfl rfl hc45) rfl ?_
 refine q_no (yk 43 true rfl rfl hc45) rfl ?_
 refine q_no (yk 43 true rfl rfl hc45) rfl ?_
 refine q_no (yk 43 true rfl rfl hc45) rfl ?_
 refine q_no (yk 43 true rfl rfl hc45) rfl ?_
 refine q_no (yk 43 true rfl rfl hc45) rfl ?_
 refine q_st (v:=.bool true) (fun w hs => (x_pick_t (.tmp rfl (cVb hc45)) .const)) ?_
 exact jq_end ⟨(cVb (jor_t hc45)),hρ41,hρ42,hρ43,True.intro⟩
 have hp45:¬ (((p_m.done = true) ∨ (¬ (p_m.v.ID = f.ID))) ∨ (¬ (m_prom = f.ID))):=J_no (J_or (J_or Iff.rfl (J_not decide_eq_true_iff)) (J_not decide_eq_true_iff)) hc45
 refine q_yes (yk 43 false rfl rfl hc45) ?_
 refine q_st (v:=.pointer (some ⟨gp_m,0,none⟩)) (fun w hs => (x_move (.tmp rfl hρ43))) ?_
 refine q_yes (yk 43 false rfl rfl hc45) ?_
 refine q_st (v:=.pointer (some ⟨gp_m,0,none⟩)) (fun w hs => (x_nilCheck (.tmp rfl rfl))) ?_
 refine q_yes (yk 43 false rfl rfl hc45) ?_
 refine q_st (v:=.pointer (some ⟨gp_m,0 + 0,none⟩)) (fun w hs => (fa81_0 (.tmp rfl rfl))) ?_
 refine q_yes (yk 43 false rfl rfl hc45) ?_
 refine q_st (v:=.pointer (some ⟨gp_m,0 + 0 + 2,none⟩)) (fun w hs => (fa39_1 (.tmp rfl rfl))) ?_
 refine q_yes (yk 43 false rfl rfl hc45) ?_
 refine q_st (v:=.int .u16 ((p_m.v.Set:Nat):Int)) (fun w hs => (ld31 (.tmp rfl rfl) (hs.cell 2 rfl (0 + 0 + 2) rfl))) ?_
 refine q_yes (yk 43 false rfl rfl hc45) ?_
 refine q_st (v:=.pointer (some ⟨g29,0 + 1,none⟩)) (fun w hs => (fa51_1 (.tmp rfl hρ42))) ?_
 refine q_yes (yk 43 false rfl rfl hc45) ?_
 refine q_st (v:=.int .i64 f.From) (fun w hs => (ld3 (.tmp rfl rfl) (hs.cell 0 rfl (0 + 1) rfl))) ?_
 refine q_yes (yk 43 false rfl rfl hc45) ?_
 refine q_c (v:=.bool (has p_m.v.Set f.From)) cb34 .func (evs2 (.tmp rfl rfl) (.tmp rfl rfl)) (fun w hs => has_spec hs p_m.v.Set f.From hk_m.set (by omega)) ?_
 refine q_yes (yk 43 false rfl rfl hc45) ?_
 refine q_st (v:=.bool (!(has p_m.v.Set f.From))) (fun w hs => (x_not (.tmp rfl rfl))) ?_
 refine q_st (v:=.bool (!(has p_m.v.Set f.From))) (fun w hs => (x_pick_f (.tmp rfl (cVb hc45)) (.tmp rfl rfl))) ?_
 exact jq_end ⟨(cVb (jor_f hc45)),hρ41,hρ42,hρ43,True.intro⟩
 rintro ρ ⟨hρ46,hρ47,hρ48,hρ49,_⟩
 refine q_st (v:=.bool (((p_m.done || (!(decide (p_m.v.ID = f.ID)))) || (!(decide (m_prom = f.ID)))) || (!(has p_m.v.Set f.From)))) (fun w hs => (x_move (.tmp rfl hρ46))) ?_
 refine jq 8 (fun ρ => ρ 62 = .bool ((((p_m.done || (!(decide (p_m.v.ID = f.ID)))) || (!(decide (m_prom = f.ID)))) || (!(has p_m.v.Set f.From))) || (has p_m.who f.From))∧ρ 0 = .pointer (some ⟨g_m,0,none⟩)∧ρ 3 = .pointer (some ⟨g29,0,none⟩)∧ρ 7 = .pointer (some ⟨gp_m,0,none⟩)∧True) ?_ ?_
 rcases Bool.eq_false_or_eq_true (((p_m.done || (!(decide (p_m.v.ID = f.ID)))) || (!(decide (m_prom = f.ID)))) || (!(has p_m.v.Set f.From))) with hc51 | hc51
 have hp51:(((p_m.done = true) ∨ (¬ (p_m.v.ID = f.ID))) ∨ (¬ (m_prom = f.ID))) ∨ (¬ ((has p_m.v.Set f.From) = true)):=((J_or (J_or (J_or Iff.rfl (J_not decide_eq_true_iff)) (J_not decide_eq_true_iff)) (J_not Iff.rfl))).1 hc51
 refine q_no (yk 54 true rfl rfl hc51) rfl ?_
 refine q_no (yk 54 true rfl rfl hc51) rfl ?_
 refine q_no (yk 54 true rfl rfl hc51) rfl ?_
 refine q_no (yk 54 true rfl rfl hc51) rfl ?_
 refine q_no (yk 54 true rfl rfl hc51) rfl ?_
 refine q_no (yk 54 true rfl rfl hc51) rfl ?_
 refine q_no (yk 54 true rfl rfl hc51) rfl ?_
 refine q_st (v:=.bool true) (fun w hs => (x_pick_t (.tmp rfl (cVb hc51)) .const)) ?_
 exact jq_end ⟨(cVb (jor_t hc51)),hρ47,hρ48,hρ49,True.intro⟩
 have hp51:¬ ((((p_m.done = true) ∨ (¬ (p_m.v.ID = f.ID))) ∨ (¬ (m_prom = f.ID))) ∨ (¬ ((has p_m.v.Set f.From) = true))):=J_no (J_or (J_or (J_or Iff.rfl (J_not decide_eq_true_iff)) (J_not decide_eq_true_iff)) (J_not Iff.rfl)) hc51
 refine q_yes (yk 54 false rfl rfl hc51) ?_
 refine q_st (v:=.pointer (some ⟨gp_m,0,none⟩)) (fun w hs => (x_move (.tmp rfl hρ49))) ?_
 refine q_yes (yk 54 false rfl rfl hc51) ?_
 refine q_st (v:=.pointer (some ⟨gp_m,0,none⟩)) (fun w hs => (x_nilCheck (.tmp rfl rfl))) ?_
 refine q_yes (yk 54 false rfl rfl hc51) ?_
 refine q_st (v:=.pointer (some ⟨gp_m,0 + 3,none⟩)) (fun w hs => (fa81_1 (.tmp rfl rfl))) ?_
 refine q_yes (yk 54 false rfl rfl hc51) ?_
 refine q_st (v:=.int .u16 ((p_m.who:Nat):Int)) (fun w hs => (ld31 (.tmp rfl rfl) (hs.cell 2 rfl (0 + 3) rfl))) ?_
 refine q_yes (yk 54 false rfl rfl hc51) ?_
 refine q_st (v:=.pointer (some ⟨g29,0 + 1,none⟩)) (fun w hs => (fa51_1 (.tmp rfl hρ48))) ?_
 refine q_yes (yk 54 false rfl rfl hc51) ?_
 refine q_st (v:=.int .i64 f.From) (fun w hs => (ld3 (.tmp rfl rfl) (hs.cell 0 rfl (0 + 1) rfl))) ?_
 refine q_yes (yk 54 false rfl rfl hc51) ?_
 refine q_c (v:=.bool (has p_m.who f.From)) cb34 .func (evs2 (.tmp rfl rfl) (.tmp rfl rfl)) (fun w hs => has_spec hs p_m.who f.From hk_m.who (by omega)) ?_
 refine q_st (v:=.bool (has p_m.who f.From)) (fun w hs => (x_pick_f (.tmp rfl (cVb hc51)) (.tmp rfl rfl))) ?_
 exact jq_end ⟨(cVb (jor_f hc51)),hρ47,hρ48,hρ49,True.intro⟩
 rintro ρ ⟨hρ52,hρ53,hρ54,hρ55,_⟩
 refine q_st (v:=.bool ((((p_m.done || (!(decide (p_m.v.ID = f.ID)))) || (!(decide (m_prom = f.ID)))) || (!(has p_m.v.Set f.From))) || (has p_m.who f.From))) (fun w hs => (x_move (.tmp rfl hρ52))) ?_
 refine jq 5 (fun ρ => ρ 68 = .bool (((((p_m.done || (!(decide (p_m.v.ID = f.ID)))) || (!(decide (m_prom = f.ID)))) || (!(has p_m.v.Set f.From))) || (has p_m.who f.From)) || (decide ((((n15:Nat):Int):Int) ≠ 1)))∧ρ 0 = .pointer (some ⟨g_m,0,none⟩)∧ρ 3 = .pointer (some ⟨g29,0,none⟩)∧ρ 7 = .pointer (some ⟨gp_m,0,none⟩)∧True) ?_ ?_
 rcases Bool.eq_false_or_eq_true ((((p_m.done || (!(decide (p_m.v.ID = f.ID)))) || (!(decide (m_prom = f.ID)))) || (!(has p_m.v.Set f.From))) || (has p_m.who f.From)) with hc57 | hc57
 have hp57:((((p_m.done = true) ∨ (¬ (p_m.v.ID = f.ID))) ∨ (¬ (m_prom = f.ID))) ∨ (¬ ((has p_m.v.Set f.From) = true))) ∨ ((has p_m.who f.From) = true):=((J_or (J_or (J_or (J_or Iff.rfl (J_not decide_eq_true_iff)) (J_not decide_eq_true_iff)) (J_not Iff.rfl)) Iff.rfl)).1 hc57
 refine q_no (yk 63 true rfl rfl hc57) rfl ?_
 refine q_no (yk 63 true rfl rfl hc57) rfl ?_
 refine q_no (yk 63 true rfl rfl hc57) rfl ?_
 refine q_no (yk 63 true rfl rfl hc57) rfl ?_
 refine q_st (v:=.bool true) (fun w hs => (x_pick_t (.tmp rfl (cVb hc57)) .const)) ?_
 exact jq_end ⟨(cVb (jor_t hc57)),hρ53,hρ54,hρ55,True.intro⟩
 have hp57:¬ (((((p_m.done = true) ∨ (¬ (p_m.v.ID = f.ID))) ∨ (¬ (m_prom = f.ID))) ∨ (¬ ((has p_m.v.Set f.From) = true))) ∨ ((has p_m.who f.From) = true)):=J_no (J_or (J_or (J_or (J_or Iff.rfl (J_not decide_eq_true_iff)) (J_not decide_eq_true_iff)) (J_not Iff.rfl)) Iff.rfl) hc57
 refine q_yes (yk 63 false rfl rfl hc57) ?_
 refine q_st (v:=.pointer (some ⟨g29,0 + 9,none⟩)) (fun w hs => (fa51_6 (.tmp rfl hρ54))) ?_
 refine q_yes (yk 63 false rfl rfl hc57) ?_
 refine q_st (v:=.slice A14 n15 c16) (fun w hs => (ld40 (.tmp rfl rfl) (hs.cell 0 rfl (0 + 9) rfl))) ?_
 refine q_yes (yk 63 false rfl rfl hc57) ?_
 refine q_st (v:=.int .i64 ((n15:Nat):Int)) (fun w hs => (x_len (n:=n15) Tryd.underlying40 (.tmp rfl rfl))) ?_
 refine q_yes (yk 63 false rfl rfl hc57) ?_
 refine q_st (v:=.bool (decide ((((n15:Nat):Int):Int) ≠ 1))) (fun w hs => (x_neq (k:=.i64) (a:=((n15:Nat):Int)) (b:=1) (.tmp rfl rfl) .const)) ?_
 refine q_st (v:=.bool (decide ((((n15:Nat):Int):Int) ≠ 1))) (fun w hs => (x_pick_f (.tmp rfl (cVb hc57)) (.tmp rfl rfl))) ?_
 exact jq_end ⟨(cVb (jor_f hc57)),hρ53,hρ54,hρ55,True.intro⟩
 rintro ρ ⟨hρ58,hρ59,hρ60,hρ61,_⟩
 refine q_nil ?_
 intro w hs63
 refine n_then ?_
 rcases Bool.eq_false_or_eq_true (((((p_m.done || (!(decide (p_m.v.ID = f.ID)))) || (!(decide (m_prom = f.ID)))) || (!(has p_m.v.Set f.From))) || (has p_m.who f.From)) || (decide ((((n15:Nat):Int):Int) ≠ 1))) with hc64 | hc64
 have hp64:(((((p_m.done = true) ∨ (¬ (p_m.v.ID = f.ID))) ∨ (¬ (m_prom = f.ID))) ∨ (¬ ((has p_m.v.Set f.From) = true))) ∨ ((has p_m.who f.From) = true)) ∨ ((((n15:Nat):Int):Int) ≠ 1):=((J_or (J_or (J_or (J_or (J_or Iff.rfl (J_not decide_eq_true_iff)) (J_not decide_eq_true_iff)) (J_not Iff.rfl)) Iff.rfl) decide_eq_true_iff)).1 hc64
 refine c_cond_t (t:=true) (.tmp rfl (hρ58.trans (cVb hc64))) rfl ?_
 refine c_seq (c_region (st (v:=.slice none 0 0) (x_assign .const) ?_))
 refine st (v:=.pointer none) (x_assign .const) ?_
 refine st (v:=.int .i64 9) (x_assign .const) ?_
 refine c_nil (n_then (c_ret (r_then (leave_ret (res_three (v:=.slice none 0 0) (u:=.pointer none) (x:=.int .i64 9) rfl (.mk rfl rfl) (.mk rfl rfl) (.mk rfl rfl)) ?_))))
 have hpq:(MB.accept (MB.mk m_n m_self m_cur m_prom m_high (some p_m) m_jl m_os) f) = _:=acc_no (by omega) hc64
 rw [hpq]
 have hs65:St H _ (row 53 16 (.slice none 0 0) (([]:List GOut).length) []::obj g29 51 [.int .u8 ((f.Kind:Nat):Int),.int .i64 f.From,.int .u64 ((f.ID.N:Nat):Int),.int .i64 f.ID.P,.int .u16 ((f.Set:Nat):Int),.int .u64 ((f.Cur.N:Nat):Int),.int .i64 f.Cur.P,.int .u64 ((f.Prom.N:Nat):Int),.int .i64 f.Prom.P,.slice A14 n15 c16,.int .u64 ((f.Base:Nat):Int),.slice A19 n20 c21,.slice A23 n24 c25,.int .u64 ((f.Ack:Nat):Int),.int .u64 ((f.Safe:Nat):Int)]::obj g_m 78 ((.int .i64 ((m_n:Nat):Int))::(.int .i64 ((m_self:Nat):Int))::(.int .u64 ((m_cur.ID.N:Nat):Int))::(.int .i64 m_cur.ID.P)::(.int .u16 ((m_cur.Set:Nat):Int))::(.int .u64 ((m_prom.N:Nat):Int))::(.int .i64 m_prom.P)::(.int .u64 ((m_high:Nat):Int))::(.pointer (some ⟨gp_m,0,none⟩))::(.slice A_m jn_m jc_m)::oCells m_os)::obj gp_m 81 [.int .u64 ((p_m.v.ID.N:Nat):Int),.int .i64 p_m.v.ID.P,.int .u16 ((p_m.v.Set:Nat):Int),.int .u16 ((p_m.who:Nat):Int),sv_m,.bool p_m.done]::row 37 4 sv_m p_m.states.length sc_m::L):=hs63.krowNil 53 kOut
 have okm67:MemB H m_n m_self m_cur m_prom m_high A_m jn_m jc_m m_jl m_os:=⟨hn1_m,hn16_m,hsf_m,⟨ok_m.cur.n,ok_m.cur.p⟩,ok_m.set,⟨ok_m.prom.n,ok_m.prom.p⟩,ok_m.high,ok_m.joined,ok_m.len,ok_m.oth⟩
 have okp68:PropOk H p_m sv_m sc_m:=⟨⟨hk_m.id.n,hk_m.id.p⟩,hk_m.set,hk_m.who,hk_m.ok,hk_m.hk⟩
 exact ⟨H,(.slice none 0 0),[],(.pointer none),m_cur,m_jl,A_m,jn_m,jc_m,p_m,sv_m,sc_m,(Hp.le.refl _),rfl,(RowOk.knil kOut),(Kn.rows_nil _ _),InstAt.none',okm67,okp68,rfl,(((((hs65.p1).drop.p3).p3).p3).p3)⟩
 have hp64:¬ ((((((p_m.done = true) ∨ (¬ (p_m.v.ID = f.ID))) ∨ (¬ (m_prom = f.ID))) ∨ (¬ ((has p_m.v.Set f.From) = true))) ∨ ((has p_m.who f.From) = true)) ∨ ((((n15:Nat):Int):Int) ≠ 1)):=J_no (J_or (J_or (J_or (J_or (J_or Iff.rfl (J_not decide_eq_true_iff)) (J_not decide_eq_true_iff)) (J_not Iff.rfl)) Iff.rfl) decide_eq_true_iff) hc64
 refine c_cond_f (t:=false) (.tmp rfl (hρ58.trans (cVb hc64))) rfl ?_
 refine c_skip (n_then (c_seq (t_region (L:=obj g29 51 [.int .u8 ((f.Kind:Nat):Int),.int .i64 f.From,.int .u64 ((f.ID.N:Nat):Int),.int .i64 f.ID.P,.int .u16 ((f.Set:Nat):Int),.int .u64 ((f.Cur.N:Nat):Int),.int .i64 f.Cur.P,.int .u64 ((f.Prom.N:Nat):Int),.int .i64 f.Prom.P,.slice A14 n15 c16,.int .u64 ((f.Base:Nat):Int),.slice A19 n20 c21,.slice A23 n24 c25,.int .u64 ((f.Ack:Nat):Int),.int .u64 ((f.Safe:Nat):Int)]::obj g_m 78 ((.int .i64 ((m_n:Nat):Int))::(.int .i64 ((m_self:Nat):Int))::(.int .u64 ((m_cur.ID.N:Nat):Int))::(.int .i64 m_cur.ID.P)::(.int .u16 ((m_cur.Set:Nat):Int))::(.int .u64 ((m_prom.N:Nat):Int))::(.int .i64 m_prom.P)::(.int .u64 ((m_high:Nat):Int))::(.pointer (some ⟨gp_m,0,none⟩))::(.slice A_m jn_m jc_m)::oCells m_os)::obj gp_m 81 [.int .u64 ((p_m.v.ID.N:Nat):Int),.int .i64 p_m.v.ID.P,.int .u16 ((p_m.v.Set:Nat):Int),.int .u16 ((p_m.who:Nat):Int),sv_m,.bool p_m.done]::row 37 4 sv_m p_m.states.length sc_m::L) (L':=obj g29 51 [.int .u8 ((f.Kind:Nat):Int),.int .i64 f.From,.int .u64 ((f.ID.N:Nat):Int),.int .i64 f.ID.P,.int .u16 ((f.Set:Nat):Int),.int .u64 ((f.Cur.N:Nat):Int),.int .i64 f.Cur.P,.int .u64 ((f.Prom.N:Nat):Int),.int .i64 f.Prom.P,.slice A14 n15 c16,.int .u64 ((f.Base:Nat):Int),.slice A19 n20 c21,.slice A23 n24 c25,.int .u64 ((f.Ack:Nat):Int),.int .u64 ((f.Safe:Nat):Int)]::obj g_m 78 ((.int .i64 ((m_n:Nat):Int))::(.int .i64 ((m_self:Nat):Int))::(.int .u64 ((m_cur.ID.N:Nat):Int))::(.int .i64 m_cur.ID.P)::(.int .u16 ((m_cur.Set:Nat):Int))::(.int .u64 ((m_prom.N:Nat):Int))::(.int .i64 m_prom.P)::(.int .u64 ((m_high:Nat):Int))::(.pointer (some ⟨gp_m,0,none⟩))::(.slice A_m jn_m jc_m)::oCells m_os)::obj gp_m 81 [.int .u64 ((p_m.v.ID.N:Nat):Int),.int .i64 p_m.v.ID.P,.int .u16 ((p_m.v.Set:Nat):Int),.int .u16 ((p_m.who:Nat):Int),sv_m,.bool p_m.done]::row 37 4 sv_m p_m.states.length sc_m::L) (Z:=[7,10]) (F:=[0]) (pl:=(.q 0 (.q 1 (.q 2 (.q 3 (.q 4 (.q 5 (.q 6 (.e 7 (.q 8 (.q 9 (.e 10 .done)))))))))))) mixed hs63 (fun u hu => hu) (by kernel_rfl) ?_)))
 intro w69 hs70
 refine t_fr (k:=0) (v:=.pointer (some ⟨gp_m,0,none⟩)) rfl (fun w _ => (x_move (.tmp rfl hρ61))) ?_
 refine t_st (k:=1) (v:=.pointer (some ⟨gp_m,0,none⟩)) rfl rfl (fun w hs => (x_move (.tmp rfl hρ61))) ?_
 refine t_st (k:=2) (v:=.pointer (some ⟨gp_m,0,none⟩)) rfl rfl (fun w hs => (x_nilCheck (.tmp rfl rfl))) ?_
 refine t_st (k:=3) (v:=.pointer (some ⟨gp_m,0 + 3,none⟩)) rfl rfl (fun w hs => (fa81_1 (.tmp rfl rfl))) ?_
 refine t_st (k:=4) (v:=.int .u16 ((p_m.who:Nat):Int)) rfl rfl (fun w hs => (ld31 (.tmp rfl rfl) (hs.cell 2 rfl (0 + 3) rfl))) ?_
 refine t_st (k:=5) (v:=.pointer (some ⟨g29,0 + 1,none⟩)) rfl rfl (fun w hs => (fa51_1 (.tmp rfl hρ60))) ?_
 refine t_st (k:=6) (v:=.int .i64 f.From) rfl rfl (fun w hs => (ld3 (.tmp rfl rfl) (hs.cell 0 rfl (0 + 1) rfl))) ?_
 refine t_eff (k:=7) rfl ?_
 refine st_c cb24 .func (evs2 (.tmp rfl rfl) (.tmp rfl rfl)) (with_spec hs70 p_m.who f.From hk_m.who (by omega)) ?_
 rintro e w71 ⟨rfl,hs72⟩
 refine ⟨_,rfl,?_⟩
 refine t_new (S':=fun u => St H u (obj g29 51 [.int .u8 ((f.Kind:Nat):Int),.int .i64 f.From,.int .u64 ((f.ID.N:Nat):Int),.int .i64 f.ID.P,.int .u16 ((f.Set:Nat):Int),.int .u64 ((f.Cur.N:Nat):Int),.int .i64 f.Cur.P,.int .u64 ((f.Prom.N:Nat):Int),.int .i64 f.Prom.P,.slice A14 n15 c16,.int .u64 ((f.Base:Nat):Int),.slice A19 n20 c21,.slice A23 n24 c25,.int .u64 ((f.Ack:Nat):Int),.int .u64 ((f.Safe:Nat):Int)]::obj g_m 78 ((.int .i64 ((m_n:Nat):Int))::(.int .i64 ((m_self:Nat):Int))::(.int .u64 ((m_cur.ID.N:Nat):Int))::(.int .i64 m_cur.ID.P)::(.int .u16 ((m_cur.Set:Nat):Int))::(.int .u64 ((m_prom.N:Nat):Int))::(.int .i64 m_prom.P)::(.int .u64 ((m_high:Nat):Int))::(.pointer (some ⟨gp_m,0,none⟩))::(.slice A_m jn_m jc_m)::oCells m_os)::obj gp_m 81 [.int .u64 ((p_m.v.ID.N:Nat):Int),.int .i64 p_m.v.ID.P,.int .u16 ((p_m.v.Set:Nat):Int),.int .u16 ((p_m.who:Nat):Int),sv_m,.bool p_m.done]::row 37 4 sv_m p_m.states.length sc_m::L)) rfl hs72 ?_
 refine t_st (k:=8) (v:=.pointer (some ⟨gp_m,0,none⟩)) rfl rfl (fun w hs => (x_nilCheck (.tmp rfl rfl))) ?_
 refine t_st (k:=9) (v:=.pointer (some ⟨gp_m,0 + 3,none⟩)) rfl rfl (fun w hs => (fa81_1 (.tmp rfl rfl))) ?_
 refine t_eff (k:=10) rfl ?_
 have hs73:=hs72.p2
 refine st_m0 (sto31 (cs':=[.int .u64 ((p_m.v.ID.N:Nat):Int),.int .i64 p_m.v.ID.P,.int .u16 ((p_m.v.Set:Nat):Int),.int .u16 (((wth p_m.who f.From):Nat):Int),sv_m,.bool p_m.done]) (i:=0 + 3) hs73 (v:=.int .u16 (((wth p_m.who f.From):Nat):Int)) (.tmp rfl rfl) (.tmp rfl rfl) rfl (Nat.le_of_ble_eq_true rfl) one1 rfl) ?_
 rintro w74 hs76
 refine t_new (S':=fun u => St H u (obj gp_m 81 [.int .u64 ((p_m.v.ID.N:Nat):Int),.int .i64 p_m.v.ID.P,.int .u16 ((p_m.v.Set:Nat):Int),.int .u16 (((wth p_m.who f.From):Nat):Int),sv_m,.bool p_m.done]::obj g29 51 [.int .u8 ((f.Kind:Nat):Int),.int .i64 f.From,.int .u64 ((f.ID.N:Nat):Int),.int .i64 f.ID.P,.int .u16 ((f.Set:Nat):Int),.int .u64 ((f.Cur.N:Nat):Int),.int .i64 f.Cur.P,.int .u64 ((f.Prom.N:Nat):Int),.int .i64 f.Prom.P,.slice A14 n15 c16,.int .u64 ((f.Base:Nat):Int),.slice A19 n20 c21,.slice A23 n24 c25,.int .u64 ((f.Ack:Nat):Int),.int .u64 ((f.Safe:Nat):Int)]::obj g_m 78 ((.int .i64 ((m_n:Nat):Int))::(.int .i64 ((m_self:Nat):Int))::(.int .u64 ((m_cur.ID.N:Nat):Int))::(.int .i64 m_cur.ID.P)::(.int .u16 ((m_cur.Set:Nat):Int))::(.int .u64 ((m_prom.N:Nat):Int))::(.int .i64 m_prom.P)::(.int .u64 ((m_high:Nat):Int))::(.pointer (some ⟨gp_m,0,none⟩))::(.slice A_m jn_m jc_m)::oCells m_os)::row 37 4 sv_m p_m.states.length sc_m::L)) rfl hs76 ?_
 refine t_nil ?_
 refine n_then (c_seq (t_region (L:=obj gp_m 81 [.int .u64 ((p_m.v.ID.N:Nat):Int),.int .i64 p_m.v.ID.P,.int .u16 ((p_m.v.Set:Nat):Int),.int .u16 (((wth p_m.who f.From):Nat):Int),sv_m,.bool p_m.done]::obj g29 51 [.int .u8 ((f.Kind:Nat):Int),.int .i64 f.From,.int .u64 ((f.ID.N:Nat):Int),.int .i64 f.ID.P,.int .u16 ((f.Set:Nat):Int),.int .u64 ((f.Cur.N:Nat):Int),.int .i64 f.Cur.P,.int .u64 ((f.Prom.N:Nat):Int),.int .i64 f.Prom.P,.slice A14 n15 c16,.int .u64 ((f.Base:Nat):Int),.slice A19 n20 c21,.slice A23 n24 c25,.int .u64 ((f.Ack:Nat):Int),.int .u64 ((f.Safe:Nat):Int)]::obj g_m 78 ((.int .i64 ((m_n:Nat):Int))::(.int .i64 ((m_self:Nat):Int))::(.int .u64 ((m_cur.ID.N:Nat):Int))::(.int .i64 m_cur.ID.P)::(.int .u16 ((m_cur.Set:Nat):Int))::(.int .u64 ((m_prom.N:Nat):Int))::(.int .i64 m_prom.P)::(.int .u64 ((m_high:Nat):Int))::(.pointer (some ⟨gp_m,0,none⟩))::(.slice A_m jn_m jc_m)::oCells m_os)::row 37 4 sv_m p_m.states.length sc_m::L) (L':=obj gp_m 81 [.int .u64 ((p_m.v.ID.N:Nat):Int),.int .i64 p_m.v.ID.P,.int .u16 ((p_m.v.Set:Nat):Int),.int .u16 (((wth p_m.who f.From):Nat):Int),sv_m,.bool p_m.done]::obj g29 51 [.int .u8 ((f.Kind:Nat):Int),.int .i64 f.From,.int .u64 ((f.ID.N:Nat):Int),.int .i64 f.ID.P,.int .u16 ((f.Set:Nat):Int),.int .u64 ((f.Cur.N:Nat):Int),.int .i64 f.Cur.P,.int .u64 ((f.Prom.N:Nat):Int),.int .i64 f.Prom.P,.slice A14 n15 c16,.int .u64 ((f.Base:Nat):Int),.slice A19 n20 c21,.slice A23 n24 c25,.int .u64 ((f.Ack:Nat):Int),.int .u64 ((f.Safe:Nat):Int)]::obj g_m 78 ((.int .i64 ((m_n:Nat):Int))::(.int .i64 ((m_self:Nat):Int))::(.int .u64 ((m_cur.ID.N:Nat):Int))::(.int .i64 m_cur.ID.P)::(.int .u16 ((m_cur.Set:Nat):Int))::(.int .u64 ((m_prom.N:Nat):Int))::(.int .i64 m_prom.P)::(.int .u64 ((m_high:Nat):Int))::(.pointer (some ⟨gp_m,0,none⟩))::(.slice A_m jn_m jc_m)::oCells m_os)::row 37 4 sv_m p_m.states.length sc_m::L) (Z:=[10,13]) (F:=[0,5]) (pl:=(.q 0 (.q 1 (.q 2 (.q 3 (.q 4 (.q 5 (.q 6 (.q 7 (.q 8 (.e 9 (.e 10 (.q 11 (.q 12 (.e 13 .done))))))))))))))) mixed hs76 (fun u hu => hu) (by kernel_rfl) ?_))
 intro w77 hs78
 refine t_fr (k:=0) (v:=.pointer (some ⟨gp_m,0,none⟩)) rfl (fun w _ => (x_move (.tmp rfl hρ61))) ?_
 refine t_st (k:=1) (v:=.pointer (some ⟨gp_m,0,none⟩)) rfl rfl (fun w hs => (x_move (.tmp rfl hρ61))) ?_
 refine t_st (k:=2) (v:=.pointer (some ⟨gp_m,0,none⟩)) rfl rfl (fun w hs => (x_nilCheck (.tmp rfl rfl))) ?_
 refine t_st (k:=3) (v:=.pointer (some ⟨gp_m,0 + 4,none⟩)) rfl rfl (fun w hs => (fa81_2 (.tmp rfl rfl))) ?_
 refine t_st (k:=4) (v:=sv_m) rfl rfl (fun w hs => (ld40 (.tmp rfl rfl) (hs.cell 0 rfl (0 + 4) rfl))) ?_
 refine t_fr (k:=5) (v:=.pointer (some ⟨g29,0 + 9,none⟩)) rfl (fun w _ => (fa51_6 (.tmp rfl hρ60))) ?_
 refine t_st (k:=6) (v:=.slice A14 n15 c16) rfl rfl (fun w hs => (ld40 (.tmp rfl rfl) (hs.cell 1 rfl (0 + 9) rfl))) ?_
 obtain ⟨e79,b80,o81,cs82,hx83,hA84,hr85,hat86⟩:=hl17.get (i:=0) (by omega)
 obtain ⟨A92,n93,c94,rfl,b87,⟨b88,b89⟩,⟨b90,b91⟩,hl95⟩:=hr85
 have:=hl95.len; have:n93 * 32 ≤ 140737488351232:=hl95.bnd; have:=hl95.le
 have hat86x:∀ {w:World} {L:List Res},St H w L → At w ⟨b80,o81 + 0 * 4,none⟩ [.int .u64 ((e79.V.N:Nat):Int),.int .i64 e79.V.P,.int .i64 e79.Floor,.slice A92 n93 c94]:=fun h => hat86 h
 refine t_st (k:=7) (v:=.pointer (some ⟨b80,(o81 + 0 * 4),none⟩)) rfl rfl (fun w hs => (ixo40 (.tmp rfl rfl) hA84 (i:=0) .const (by omega) (by omega) (by omega))) ?_
 refine t_st (k:=8) (v:=.agg #[.int .u64 ((e79.V.N:Nat):Int),.int .i64 e79.V.P,.int .i64 e79.Floor,.slice A92 n93 c94]) rfl rfl (fun w hs => (ld37 (cs:=[.int .u64 ((e79.V.N:Nat):Int),.int .i64 e79.V.P,.int .i64 e79.Floor,.slice A92 n93 c94]) (.tmp rfl rfl) ((hat86x hs).sub 0 rfl) rfl)) ?_
 refine t_eff (k:=9) rfl ?_
 refine st_m (m_lit (n:=1) (ps:=[(0,.agg #[.int .u64 ((e79.V.N:Nat):Int),.int .i64 e79.V.P,.int .i64 e79.Floor,.slice A92 n93 c94])]) (cs:=[.int .u64 ((e79.V.N:Nat):Int),.int .i64 e79.V.P,.int .i64 e79.Floor,.slice A92 n93 c94]) Tryd.underlying40 inf37 (.cons (.tmp rfl rfl) Evp.nil) (by decide) (by decide) rfl rfl hs78) ?_
 rintro _ w97 ⟨g96,rfl,hs99⟩
 refine t_on (S':=fun u => St H u (obj g96 37 [.int .u64 ((e79.V.N:Nat):Int),.int .i64 e79.V.P,.int .i64 e79.Floor,.slice A92 n93 c94]::obj gp_m 81 [.int .u64 ((p_m.v.ID.N:Nat):Int),.int .i64 p_m.v.ID.P,.int .u16 ((p_m.v.Set:Nat):Int),.int .u16 (((wth p_m.who f.From):Nat):Int),sv_m,.bool p_m.done]::obj g29 51 [.int .u8 ((f.Kind:Nat):Int),.int .i64 f.From,.int .u64 ((f.ID.N:Nat):Int),.int .i64 f.ID.P,.int .u16 ((f.Set:Nat):Int),.int .u64 ((f.Cur.N:Nat):Int),.int .i64 f.Cur.P,.int .u64 ((f.Prom.N:Nat):Int),.int .i64 f.Prom.P,.slice A14 n15 c16,.int .u64 ((f.Base:Nat):Int),.slice A19 n20 c21,.slice A23 n24 c25,.int .u64 ((f.Ack:Nat):Int),.int .u64 ((f.Safe:Nat):Int)]::obj g_m 78 ((.int .i64 ((m_n:Nat):Int))::(.int .i64 ((m_self:Nat):Int))::(.int .u64 ((m_cur.ID.N:Nat):Int))::(.int .i64 m_cur.ID.P)::(.int .u16 ((m_cur.Set:Nat):Int))::(.int .u64 ((m_prom.N:Nat):Int))::(.int .i64 m_prom.P)::(.int .u64 ((m_high:Nat):Int))::(.pointer (some ⟨gp_m,0,none⟩))::(.slice A_m jn_m jc_m)::oCells m_os)::row 37 4 sv_m p_m.states.length sc_m::L)) (fun u hu => hu.drop) hs99 ?_
 refine t_eff (k:=10) rfl ?_
 have hs100:=hs99.p4
 have hr108:kState.rep H e79 [.int .u64 ((e79.V.N:Nat):Int),.int .i64 e79.V.P,.int .i64 e79.Floor,.slice A92 n93 c94]:=⟨A92,n93,c94,rfl,b87,⟨b88,b89⟩,⟨b90,b91⟩,hl95⟩
 refine st_m (m_appK (d:=kState) (ys:=[e79]) (news:=[.int .u64 ((e79.V.N:Nat):Int),.int .i64 e79.V.P,.int .i64 e79.Floor,.slice A92 n93 c94]) Tryd.underlying40 inf37 rfl hs100 hk_m.ok hk_m.hk (.tmp rfl rfl) (.tmp rfl rfl) (Kn.rows_one hr108) rfl (hs100.at_ 1 rfl 0 rfl) (by have:([e79]:List GState).length = 1:=rfl; omega) (by decide)) ?_
 rintro v101 w102 ⟨cs103,ok104,hk105,hs106⟩
 have hn107:(p_m.states ++ [e79]).length = p_m.states.length + 1:=by simp
 refine t_new (S':=fun u => St H u (row 37 4 v101 ((p_m.states ++ [e79]).length) cs103::obj g96 37 [.int .u64 ((e79.V.N:Nat):Int),.int .i64 e79.V.P,.int .i64 e79.Floor,.slice A92 n93 c94]::obj gp_m 81 [.int .u64 ((p_m.v.ID.N:Nat):Int),.int .i64 p_m.v.ID.P,.int .u16 ((p_m.v.Set:Nat):Int),.int .u16 (((wth p_m.who f.From):Nat):Int),sv_m,.bool p_m.done]::obj g29 51 [.int .u8 ((f.Kind:Nat):Int),.int .i64 f.From,.int .u64 ((f.ID.N:Nat):Int),.int .i64 f.ID.P,.int .u16 ((f.Set:Nat):Int),.int .u64 ((f.Cur.N:Nat):Int),.int .i64 f.Cur.P,.int .u64 ((f.Prom.N:Nat):Int),.int .i64 f.Prom.P,.slice A14 n15 c16,.int .u64 ((f.Base:Nat):Int),.slice A19 n20 c21,.slice A23 n24 c25,.int .u64 ((f.Ack:Nat):Int),.int .u64 ((f.Safe:Nat):Int)]::obj g_m 78 ((.int .i64 ((m_n:Nat):Int))::(.int .i64 ((m_self:Nat):Int))::(.int .u64 ((m_cur.ID.N:Nat):Int))::(.int .i64 m_cur.ID.P)::(.int .u16 ((m_cur.Set:Nat):Int))::(.int .u64 ((m_prom.N:Nat):Int))::(.int .i64 m_prom.P)::(.int .u64 ((m_high:Nat):Int))::(.pointer (some ⟨gp_m,0,none⟩))::(.slice A_m jn_m jc_m)::oCells m_os)::L)) rfl hs106 ?_
 refine t_st (k:=11) (v:=.pointer (some ⟨gp_m,0,none⟩)) rfl rfl (fun w hs => (x_nilCheck (.tmp rfl rfl))) ?_
 refine t_st (k:=12) (v:=.pointer (some ⟨gp_m,0 + 4,none⟩)) rfl rfl (fun w hs => (fa81_2 (.tmp rfl rfl))) ?_
 refine t_eff (k:=13) rfl ?_
 obtain ⟨A109,c110,rfl,hc111⟩:=ok104.slice
 have hs112:=hs106.p2
 refine st_m0 (sto40 (cs':=[.int .u64 ((p_m.v.ID.N:Nat):Int),.int .i64 p_m.v.ID.P,.int .u16 ((p_m.v.Set:Nat):Int),.int .u16 (((wth p_m.who f.From):Nat):Int),.slice A109 ((p_m.states ++ [e79]).length) c110,.bool p_m.done]) (i:=0 + 4) hs112 (v:=.slice A109 ((p_m.states ++ [e79]).length) c110) (.tmp rfl rfl) (.tmp rfl rfl) rfl (Nat.le_of_ble_eq_true rfl) one1 rfl) ?_
 rintro w113 hs115
 refine t_new (S':=fun u => St H u (obj gp_m 81 [.int .u64 ((p_m.v.ID.N:Nat):Int),.int .i64 p_m.v.ID.P,.int .u16 ((p_m.v.Set:Nat):Int),.int .u16 (((wth p_m.who f.From):Nat):Int),.slice A109 ((p_m.states ++ [e79]).length) c110,.bool p_m.done]::row 37 4 (.slice A109 ((p_m.states ++ [e79]).length) c110) ((p_m.states ++ [e79]).length) cs103::obj g96 37 [.int .u64 ((e79.V.N:Nat):Int),.int .i64 e79.V.P,.int .i64 e79.Floor,.slice A92 n93 c94]::obj g29 51 [.int .u8 ((f.Kind:Nat):Int),.int .i64 f.From,.int .u64 ((f.ID.N:Nat):Int),.int .i64 f.ID.P,.int .u16 ((f.Set:Nat):Int),.int .u64 ((f.Cur.N:Nat):Int),.int .i64 f.Cur.P,.int .u64 ((f.Prom.N:Nat):Int),.int .i64 f.Prom.P,.slice A14 n15 c16,.int .u64 ((f.Base:Nat):Int),.slice A19 n20 c21,.slice A23 n24 c25,.int .u64 ((f.Ack:Nat):Int),.int .u64 ((f.Safe:Nat):Int)]::obj g_m 78 ((.int .i64 ((m_n:Nat):Int))::(.int .i64 ((m_self:Nat):Int))::(.int .u64 ((m_cur.ID.N:Nat):Int))::(.int .i64 m_cur.ID.P)::(.int .u16 ((m_cur.Set:Nat):Int))::(.int .u64 ((m_prom.N:Nat):Int))::(.int .i64 m_prom.P)::(.int .u64 ((m_high:Nat):Int))::(.pointer (some ⟨gp_m,0,none⟩))::(.slice A_m jn_m jc_m)::oCells m_os)::L)) rfl hs115 ?_
 refine t_nil ?_
 refine n_then (c_seq (c_region (st (v:=.pointer (some ⟨g_m,0,none⟩)) (x_move (.tmp rfl hρ59)) ?_)))
 have hs116:=hs115.p1
 have hs117:=hs116.p1
 have hs118:=hs117.p4
 have okm119:MemB H m_n m_self m_cur m_prom m_high A_m jn_m jc_m m_jl m_os:=⟨hn1_m,hn16_m,hsf_m,⟨ok_m.cur.n,ok_m.cur.p⟩,ok_m.set,⟨ok_m.prom.n,ok_m.prom.p⟩,ok_m.high,ok_m.joined,ok_m.len,ok_m.oth⟩
 have okp120:PropOk H (GProp.mk p_m.v (wth p_m.who f.From) (p_m.states ++ [e79]) p_m.done) (.slice A109 ((p_m.states ++ [e79]).length) c110) cs103:=⟨⟨hk_m.id.n,hk_m.id.p⟩,hk_m.set,(wth_lt hk_m.who f.From),ok104,hk105⟩
 refine st_c cb27 .func (evs1 (.tmp rfl rfl)) (agree_S hs118 (p_m:=(GProp.mk p_m.v (wth p_m.who f.From) (p_m.states ++ [e79]) p_m.done)) (m_n:=m_n) (m_self:=m_self) (m_cur:=m_cur) (m_prom:=m_prom) (m_high:=m_high) (m_jl:=m_jl) (m_os:=m_os) okm119 okp120 (by simp only [List.length_append,List.length_singleton]; omega) (app_floor1 hb (hbf _ (List.mem_of_getElem? hx83)))) ?_
 rintro e w121 ⟨H123,iv125,cz128,jz129,A130,jn131,jc132,pz134,sv135,sc136,hle124,rfl,hin126,okm127,hkp133,hme137,hs122⟩
 refine ⟨_,rfl,?_⟩
 refine st (v:=iv125) (x_assign (.tmp rfl rfl)) ?_
 refine c_nil (n_then (c_seq (c_seq (c_region (st (v:=iv125) (x_move (.tmp rfl rfl)) ?_)))))
 rcases InstAt.cases hin126 with ⟨hX141,rfl⟩ | ⟨yi138,gi139,ci140,hX141,rfl,hrd142,hrp143⟩
 refine st (v:=.bool true) (x_eqlP Tryd.underlying28 (.tmp rfl rfl) .const rfl) ?_
 refine c_nil (n_then (c_cond_t (t:=true) (.tmp rfl rfl) rfl ?_))
 refine c_seq (c_region (st (v:=.slice none 0 0) (x_assign .const) ?_))
 refine st (v:=.pointer none) (x_assign .const) ?_
 refine st (v:=.int .i64 0) (x_assign .const) ?_
 refine c_nil (n_then (c_ret (r_then (leave_ret (res_three (v:=.slice none 0 0) (u:=.pointer none) (x:=.int .i64 0) rfl (.mk rfl rfl) (.mk rfl rfl) (.mk rfl rfl)) ?_))))
 have hfs:f.States = [e79]:=one_of hx83 (by omega)
 have haok:=acc_ok (m:=(MB.mk m_n m_self m_cur m_prom m_high (some p_m) m_jl m_os)) (by omega) rfl hc64
 have hpq:(MB.accept (MB.mk m_n m_self m_cur m_prom m_high (some p_m) m_jl m_os) f) = _:=acc_wait haok hfs hX141 hme137
 rw [hpq]
 have hs145:St H123 _ (row 53 16 (.slice none 0 0) (([]:List GOut).length) []::obj g_m 78 ((.int .i64 ((m_n:Nat):Int))::(.int .i64 ((m_self:Nat):Int))::(.int .u64 ((cz128.ID.N:Nat):Int))::(.int .i64 cz128.ID.P)::(.int .u16 ((cz128.Set:Nat):Int))::(.int .u64 ((m_prom.N:Nat):Int))::(.int .i64 m_prom.P)::(.int .u64 ((m_high:Nat):Int))::(.pointer (some ⟨gp_m,0,none⟩))::(.slice A130 jn131 jc132)::oCells m_os)::obj gp_m 81 [.int .u64 ((pz134.v.ID.N:Nat):Int),.int .i64 pz134.v.ID.P,.int .u16 ((pz134.v.Set:Nat):Int),.int .u16 ((pz134.who:Nat):Int),sv135,.bool pz134.done]::row 37 4 sv135 pz134.states.length sc136::obj g96 37 [.int .u64 ((e79.V.N:Nat):Int),.int .i64 e79.V.P,.int .i64 e79.Floor,.slice A92 n93 c94]::obj g29 51 [.int .u8 ((f.Kind:Nat):Int),.int .i64 f.From,.int .u64 ((f.ID.N:Nat):Int),.int .i64 f.ID.P,.int .u16 ((f.Set:Nat):Int),.int .u64 ((f.Cur.N:Nat):Int),.int .i64 f.Cur.P,.int .u64 ((f.Prom.N:Nat):Int),.int .i64 f.Prom.P,.slice A14 n15 c16,.int .u64 ((f.Base:Nat):Int),.slice A19 n20 c21,.slice A23 n24 c25,.int .u64 ((f.Ack:Nat):Int),.int .u64 ((f.Safe:Nat):Int)]::L):=hs122.krowNil 53 kOut
 have okm147:MemB H123 m_n m_self cz128 m_prom m_high A130 jn131 jc132 jz129 m_os:=⟨hn1_m,hn16_m,hsf_m,⟨okm127.cur.n,okm127.cur.p⟩,okm127.set,⟨okm127.prom.n,okm127.prom.p⟩,okm127.high,okm127.joined,okm127.len,okm127.oth⟩
 have okp148:PropOk H123 pz134 sv135 sc136:=⟨⟨hkp133.id.n,hkp133.id.p⟩,hkp133.set,hkp133.who,hkp133.ok,hkp133.hk⟩
 exact ⟨H123,(.slice none 0 0),[],(.pointer none),cz128,jz129,A130,jn131,jc132,pz134,sv135,sc136,hle124,rfl,(RowOk.knil kOut),(Kn.rows_nil _ _),InstAt.none',okm147,okp148,rfl,((((((hs145.p4).drop.p4).drop.p3).p3).p3).p3)⟩
 obtain ⟨A153,n154,c155,rfl,b149,⟨b150,b151⟩,b152,hl156⟩:=hrp143
 have:=hl156.len; have:n154 * 48 ≤ 140737488351232:=hl156.bnd; have:=hl156.le
 have hat144:∀ {w:World} {L:List Res},St H123 w L → At w ⟨gi139,0,none⟩ [.int .u64 ((yi138.View.ID.N:Nat):Int),.int .i64 yi138.View.ID.P,.int .u16 ((yi138.View.Set:Nat):Int),.slice A153 n154 c155]:=fun h => hrd142.hat h
 refine st (v:=.bool false) (x_eqlP Tryd.underlying28 (.tmp rfl rfl) .const rfl) ?_
 refine c_nil (n_then (c_cond_f (t:=false) (.tmp rfl rfl) rfl ?_))
 refine c_skip (n_then (c_seq (c_region ?_)))
 have hagr:=agree_some hX141
 have hpz:some pz134 = _:=(congrArg MB.prop (hme137.trans hagr.1))
 have hpv:pz134.v = p_m.v:=by have h9:=Option.some.inj hpz; rw [h9]
 have hll:(lst (wto pz134.v.Set ((m_self:Nat):Int))).length ≤ 16:=lst_len16 _
 refine st (v:=.slice none 0 0) (x_assign .const) ?_
 refine c_nil (n_then (c_seq (c_seq (t_region (L:=obj g_m 78 ((.int .i64 ((m_n:Nat):Int))::(.int .i64 ((m_self:Nat):Int))::(.int .u64 ((cz128.ID.N:Nat):Int))::(.int .i64 cz128.ID.P)::(.int .u16 ((cz128.Set:Nat):Int))::(.int .u64 ((m_prom.N:Nat):Int))::(.int .i64 m_prom.P)::(.int .u64 ((m_high:Nat):Int))::(.pointer (some ⟨gp_m,0,none⟩))::(.slice A130 jn131 jc132)::oCells m_os)::obj gp_m 81 [.int .u64 ((pz134.v.ID.N:Nat):Int),.int .i64 pz134.v.ID.P,.int .u16 ((pz134.v.Set:Nat):Int),.int .u16 ((pz134.who:Nat):Int),sv135,.bool pz134.done]::row 37 4 sv135 pz134.states.length sc136::obj g96 37 [.int .u64 ((e79.V.N:Nat):Int),.int .i64 e79.V.P,.int .i64 e79.Floor,.slice A92 n93 c94]::obj g29 51 [.int .u8 ((f.Kind:Nat):Int),.int .i64 f.From,.int .u64 ((f.ID.N:Nat):Int),.int .i64 f.ID.P,.int .u16 ((f.Set:Nat):Int),.int .u64 ((f.Cur.N:Nat):Int),.int .i64 f.Cur.P,.int .u64 ((f.Prom.N:Nat):Int),.int .i64 f.Prom.P,.slice A14 n15 c16,.int .u64 ((f.Base:Nat):Int),.slice A19 n20 c21,.slice A23 n24 c25,.int .u64 ((f.Ack:Nat):Int),.int .u64 ((f.Safe:Nat):Int)]::L) (L':=obj g_m 78 ((.int .i64 ((m_n:Nat):Int))::(.int .i64 ((m_self:Nat):Int))::(.int .u64 ((cz128.ID.N:Nat):Int))::(.int .i64 cz128.ID.P)::(.int .u16 ((cz128.Set:Nat):Int))::(.int .u64 ((m_prom.N:Nat):Int))::(.int .i64 m_prom.P)::(.int .u64 ((m_high:Nat):Int))::(.pointer (some ⟨gp_m,0,none⟩))::(.slice A130 jn131 jc132)::oCells m_os)::obj gp_m 81 [.int .u64 ((pz134.v.ID.N:Nat):Int),.int .i64 pz134.v.ID.P,.int .u16 ((pz134.v.Set:Nat):Int),.int .u16 ((pz134.who:Nat):Int),sv135,.bool pz134.done]::row 37 4 sv135 pz134.states.length sc136::obj g96 37 [.int .u64 ((e79.V.N:Nat):Int),.int .i64 e79.V.P,.int .i64 e79.Floor,.slice A92 n93 c94]::obj g29 51 [.int .u8 ((f.Kind:Nat):Int),.int .i64 f.From,.int .u64 ((f.ID.N:Nat):Int),.int .i64 f.ID.P,.int .u16 ((f.Set:Nat):Int),.int .u64 ((f.Cur.N:Nat):Int),.int .i64 f.Cur.P,.int .u64 ((f.Prom.N:Nat):Int),.int .i64 f.Prom.P,.slice A14 n15 c16,.int .u64 ((f.Base:Nat):Int),.slice A19 n20 c21,.slice A23 n24 c25,.int .u64 ((f.Ack:Nat):Int),.int .u64 ((f.Safe:Nat):Int)]::L) (Z:=[9,10]) (F:=[0,1,5,12]) (pl:=(.q 0 (.q 1 (.q 2 (.q 3 (.q 4 (.q 5 (.q 6 (.q 7 (.q 8 (.q 12 (.e 9 (.e 10 (.q 11 .done)))))))))))))) mixed hs122 (fun u hu => hu) (by kernel_rfl) ?_))))
 intro w157 hs158
 refine t_fr (k:=0) (v:=.pointer (some ⟨gp_m,0,none⟩)) rfl (fun w _ => (x_move (.tmp rfl hρ61))) ?_
 refine t_fr (k:=1) (v:=.pointer (some ⟨gp_m,0,none⟩)) rfl (fun w _ => (x_nilCheck (.tmp rfl rfl))) ?_
 refine t_st (k:=2) (v:=.pointer (some ⟨gp_m,0 + 0,none⟩)) rfl rfl (fun w hs => (fa81_0 (.tmp rfl rfl))) ?_
 refine t_st (k:=3) (v:=.pointer (some ⟨gp_m,0 + 0 + 2,none⟩)) rfl rfl (fun w hs => (fa39_1 (.tmp rfl rfl))) ?_
 refine t_st (k:=4) (v:=.int .u16 ((pz134.v.Set:Nat):Int)) rfl rfl (fun w hs => (ld31 (.tmp rfl rfl) (hs.cell 1 rfl (0 + 0 + 2) rfl))) ?_
 refine t_fr (k:=5) (v:=.pointer (some ⟨g_m,0,none⟩)) rfl (fun w _ => (x_move (.tmp rfl hρ59))) ?_
 refine t_st (k:=6) (v:=.pointer (some ⟨g_m,0,none⟩)) rfl rfl (fun w hs => (x_nilCheck (.tmp rfl rfl))) ?_
 refine t_st (k:=7) (v:=.pointer (some ⟨g_m,0 + 1,none⟩)) rfl rfl (fun w hs => (fa78_1 (.tmp rfl rfl))) ?_
 refine t_st (k:=8) (v:=.int .i64 ((m_self:Nat):Int)) rfl rfl (fun w hs => (ld3 (.tmp rfl rfl) (hs.cell 0 rfl (0 + 1) rfl))) ?_
 refine t_fr (k:=12) (v:=.int .i64 0) rfl (fun w _ => (x_move .const)) ?_
 refine t_eff (k:=9) rfl ?_
 refine st_c cb40 .func (evs2 (.tmp rfl rfl) (.tmp rfl rfl)) (without_spec hs158 pz134.v.Set ((m_self:Nat):Int) hkp133.set (by omega)) ?_
 rintro e w159 ⟨rfl,hs160⟩
 refine ⟨_,rfl,?_⟩
 refine t_new (S':=fun u => St H123 u (obj g_m 78 ((.int .i64 ((m_n:Nat):Int))::(.int .i64 ((m_self:Nat):Int))::(.int .u64 ((cz128.ID.N:Nat):Int))::(.int .i64 cz128.ID.P)::(.int .u16 ((cz128.Set:Nat):Int))::(.int .u64 ((m_prom.N:Nat):Int))::(.int .i64 m_prom.P)::(.int .u64 ((m_high:Nat):Int))::(.pointer (some ⟨gp_m,0,none⟩))::(.slice A130 jn131 jc132)::oCells m_os)::obj gp_m 81 [.int .u64 ((pz134.v.ID.N:Nat):Int),.int .i64 pz134.v.ID.P,.int .u16 ((pz134.v.Set:Nat):Int),.int .u16 ((pz134.who:Nat):Int),sv135,.bool pz134.done]::row 37 4 sv135 pz134.states.length sc136::obj g96 37 [.int .u64 ((e79.V.N:Nat):Int),.int .i64 e79.V.P,.int .i64 e79.Floor,.slice A92 n93 c94]::obj g29 51 [.int .u8 ((f.Kind:Nat):Int),.int .i64 f.From,.int .u64 ((f.ID.N:Nat):Int),.int .i64 f.ID.P,.int .u16 ((f.Set:Nat):Int),.int .u64 ((f.Cur.N:Nat):Int),.int .i64 f.Cur.P,.int .u64 ((f.Prom.N:Nat):Int),.int .i64 f.Prom.P,.slice A14 n15 c16,.int .u64 ((f.Base:Nat):Int),.slice A19 n20 c21,.slice A23 n24 c25,.int .u64 ((f.Ack:Nat):Int),.int .u64 ((f.Safe:Nat):Int)]::L)) rfl hs160 ?_
 refine t_eff (k:=10) rfl ?_
 refine st_c cb36 .func (evs1 (.tmp rfl rfl)) (list_spec hs160 (htab.mono hle124) (wto pz134.v.Set ((m_self:Nat):Int)) (wto_lt hkp133.set ((m_self:Nat):Int))) ?_
 rintro e w162 ⟨v161,rfl,ok163,hs164⟩
 refine ⟨_,rfl,?_⟩
 refine t_new (S':=fun u => St H123 u (row 3 1 v161 ((lst (wto pz134.v.Set ((m_self:Nat):Int))).length) ((lst (wto pz134.v.Set ((m_self:Nat):Int))).map encI)::obj g_m 78 ((.int .i64 ((m_n:Nat):Int))::(.int .i64 ((m_self:Nat):Int))::(.int .u64 ((cz128.ID.N:Nat):Int))::(.int .i64 cz128.ID.P)::(.int .u16 ((cz128.Set:Nat):Int))::(.int .u64 ((m_prom.N:Nat):Int))::(.int .i64 m_prom.P)::(.int .u64 ((m_high:Nat):Int))::(.pointer (some ⟨gp_m,0,none⟩))::(.slice A130 jn131 jc132)::oCells m_os)::obj gp_m 81 [.int .u64 ((pz134.v.ID.N:Nat):Int),.int .i64 pz134.v.ID.P,.int .u16 ((pz134.v.Set:Nat):Int),.int .u16 ((pz134.who:Nat):Int),sv135,.bool pz134.done]::row 37 4 sv135 pz134.states.length sc136::obj g96 37 [.int .u64 ((e79.V.N:Nat):Int),.int .i64 e79.V.P,.int .i64 e79.Floor,.slice A92 n93 c94]::obj g29 51 [.int .u8 ((f.Kind:Nat):Int),.int .i64 f.From,.int .u64 ((f.ID.N:Nat):Int),.int .i64 f.ID.P,.int .u16 ((f.Set:Nat):Int),.int .u64 ((f.Cur.N:Nat):Int),.int .i64 f.Cur.P,.int .u64 ((f.Prom.N:Nat):Int),.int .i64 f.Prom.P,.slice A14 n15 c16,.int .u64 ((f.Base:Nat):Int),.slice A19 n20 c21,.slice A23 n24 c25,.int .u64 ((f.Ack:Nat):Int),.int .u64 ((f.Safe:Nat):Int)]::L)) rfl hs164 ?_
 obtain ⟨A166,c167,hv168,hc169⟩:=ok163.slice
 refine t_st (k:=11) (v:=.int .i64 (((lst (wto pz134.v.Set ((m_self:Nat):Int))).length:Nat):Int)) rfl rfl (fun w hs => (x_len (n:=(lst (wto pz134.v.Set ((m_self:Nat):Int))).length) Tryd.underlying71 (.tmp rfl hv168))) ?_
 refine t_nil ?_
 refine n_then (c_block ?_)
 have hs171:St H123 _ (row 53 16 (.slice none 0 0) (([]:List GOut).length) []::row 3 1 v161 ((lst (wto pz134.v.Set ((m_self:Nat):Int))).length) ((lst (wto pz134.v.Set ((m_self:Nat):Int))).map encI)::obj g_m 78 ((.int .i64 ((m_n:Nat):Int))::(.int .i64 ((m_self:Nat):Int))::(.int .u64 ((cz128.ID.N:Nat):Int))::(.int .i64 cz128.ID.P)::(.int .u16 ((cz128.Set:Nat):Int))::(.int .u64 ((m_prom.N:Nat):Int))::(.int .i64 m_prom.P)::(.int .u64 ((m_high:Nat):Int))::(.pointer (some ⟨gp_m,0,none⟩))::(.slice A130 jn131 jc132)::oCells m_os)::obj gp_m 81 [.int .u64 ((pz134.v.ID.N:Nat):Int),.int .i64 pz134.v.ID.P,.int .u16 ((pz134.v.Set:Nat):Int),.int .u16 ((pz134.who:Nat):Int),sv135,.bool pz134.done]::row 37 4 sv135 pz134.states.length sc136::obj g96 37 [.int .u64 ((e79.V.N:Nat):Int),.int .i64 e79.V.P,.int .i64 e79.Floor,.slice A92 n93 c94]::obj g29 51 [.int .u8 ((f.Kind:Nat):Int),.int .i64 f.From,.int .u64 ((f.ID.N:Nat):Int),.int .i64 f.ID.P,.int .u16 ((f.Set:Nat):Int),.int .u64 ((f.Cur.N:Nat):Int),.int .i64 f.Cur.P,.int .u64 ((f.Prom.N:Nat):Int),.int .i64 f.Prom.P,.slice A14 n15 c16,.int .u64 ((f.Base:Nat):Int),.slice A19 n20 c21,.slice A23 n24 c25,.int .u64 ((f.Ack:Nat):Int),.int .u64 ((f.Safe:Nat):Int)]::L):=hs164.krowNil 53 kOut
 have:([]:List GOut).length = 0:=rfl
 refine c_loop (fun ρ w mm => ∃ (out:List GOut) (v_out:Value) (c_out:List Value) (i:Nat),ρ 0 = .pointer (some ⟨g_m,0,none⟩)∧ρ 8 = .pointer (some ⟨gi139,0,none⟩)∧ρ 9 = v_out∧ρ 106 = v161∧ρ 107 = .int .i64 (((lst (wto pz134.v.Set ((m_self:Nat):Int))).length:Nat):Int)∧ρ 108 = .int .i64 ((i:Nat):Int)∧(RowOk kOut.sz v_out out.length c_out)∧(kOut.toKn.rows H123 out c_out)∧(i ≤ (lst (wto pz134.v.Set ((m_self:Nat):Int))).length)∧(out = ((lst (wto pz134.v.Set ((m_self:Nat):Int))).take i).map (MB.commit (MB.mk m_n m_self cz128 m_prom m_high (some pz134) jz129 m_os) pz134))∧(out.length ≤ i)∧St H123 w (row 53 16 v_out out.length c_out::row 3 1 v161 ((lst (wto pz134.v.Set ((m_self:Nat):Int))).length) ((lst (wto pz134.v.Set ((m_self:Nat):Int))).map encI)::obj g_m 78 ((.int .i64 ((m_n:Nat):Int))::(.int .i64 ((m_self:Nat):Int))::(.int .u64 ((cz128.ID.N:Nat):Int))::(.int .i64 cz128.ID.P)::(.int .u16 ((cz128.Set:Nat):Int))::(.int .u64 ((m_prom.N:Nat):Int))::(.int .i64 m_prom.P)::(.int .u64 ((m_high:Nat):Int))::(.pointer (some ⟨gp_m,0,none⟩))::(.slice A130 jn131 jc132)::oCells m_os)::obj gp_m 81 [.int .u64 ((pz134.v.ID.N:Nat):Int),.int .i64 pz134.v.ID.P,.int .u16 ((pz134.v.Set:Nat):Int),.int .u16 ((pz134.who:Nat):Int),sv135,.bool pz134.done]::row 37 4 sv135 pz134.states.length sc136::L)∧mm = (lst (wto pz134.v.Set ((m_self:Nat):Int))).length - i) _ ⟨([]:List GOut),(.slice none 0 0),[],0,hρ59,rfl,rfl,rfl,rfl,rfl,(RowOk.knil kOut),(Kn.rows_nil _ _),(by omega),rfl,(Nat.zero_le _),(((((((hs171.p5).drop.p5).drop.p4).p4).p4).p4).p4),rfl⟩ ?_
 rintro ρ w mm ⟨out,v_out,c_out,i,hρ173,hρ174,hρ175,hρ176,hρ177,hρ178,ok_out,hk_out,hi,hout,hol,hs179,rfl⟩
 refine c_seq (c_region (st (v:=.bool (decide ((((i:Nat):Int):Int) < (((lst (wto pz134.v.Set ((m_self:Nat):Int))).length:Nat):Int)))) (x_lss (k:=.i64) (a:=((i:Nat):Int)) (b:=(((lst (wto pz134.v.Set ((m_self:Nat):Int))).length:Nat):Int)) (.tmp rfl hρ178) (.tmp rfl hρ177)) ?_))
 refine c_nil (n_then (c_seq ?_))
 rcases Bool.eq_false_or_eq_true (decide ((((i:Nat):Int):Int) < (((lst (wto pz134.v.Set ((m_self:Nat):Int))).length:Nat):Int))) with hc180 | hc180
 have hp180:(((i:Nat):Int):Int) < (((lst (wto pz134.v.Set ((m_self:Nat):Int))).length:Nat):Int):=of_decide_eq_true hc180
 refine c_cond_t (t:=true) (.tmp rfl (cVb hc180)) rfl ?_
 refine c_skip (n_then (c_seq (c_block (c_seq (c_region ?_)))))
 obtain ⟨g181,c182,hv183⟩:=ok163.pos (by omega)
 refine st (v:=.pointer (some ⟨g181,(i),none⟩)) (ixo71 (.tmp rfl (hρ176.trans hv183)) rfl (i:=((i:Nat):Int)) (.tmp rfl hρ178) (by omega) (by omega) (by omega)) ?_
 obtain ⟨z184,hz185⟩:∃ x,(lst (wto pz134.v.Set ((m_self:Nat):Int)))[i]? = some x:=⟨_,List.getElem?_eq_getElem (by omega)⟩
 refine st (v:=.int .i64 ((z184:Nat):Int)) (ld3 (.tmp rfl rfl) (hs179.rowEnc (enc:=encI) 1 rfl hv183 i hz185)) ?_
 refine st (v:=.int .i64 ((z184:Nat):Int)) (x_assign (.tmp rfl rfl)) ?_
 refine c_nil (n_then (c_region ?_))
 have hz16:=lst_lt hz185
 refine st (v:=v_out) (x_move (.tmp rfl hρ175)) ?_
 refine st (v:=.pointer (some ⟨g_m,0,none⟩)) (x_move (.tmp rfl hρ173)) ?_
 refine st (v:=.int .i64 ((z184:Nat):Int)) (x_move (.tmp rfl rfl)) ?_
 have hs186:=hs179.p4
 have hs187:=hs186.p4
 have hs188:=hs187.p4
 have okm189:MemB H123 m_n m_self cz128 m_prom m_high A130 jn131 jc132 jz129 m_os:=⟨hn1_m,hn16_m,hsf_m,⟨okm127.cur.n,okm127.cur.p⟩,okm127.set,⟨okm127.prom.n,okm127.prom.p⟩,okm127.high,okm127.joined,okm127.len,okm127.oth⟩
 have okp190:PropOk H123 pz134 sv135 sc136:=⟨⟨hkp133.id.n,hkp133.id.p⟩,hkp133.set,hkp133.who,hkp133.ok,hkp133.hk⟩
 refine st_c cb39 .func (evs2 (.tmp rfl rfl) (.tmp rfl rfl)) (commit_S hs188 (p_m:=pz134) (m_n:=m_n) (m_self:=m_self) (m_cur:=cz128) (m_prom:=m_prom) (m_high:=m_high) (m_jl:=jz129) (m_os:=m_os) okm189 okp190 z184 (by omega)) ?_
 rintro e w191 ⟨cs193,rfl,hr194,hs192⟩
 obtain ⟨A210,n211,c212,A215,n216,c217,A219,n220,c221,rfl,⟨b195,b196⟩,b197,⟨b198,b199⟩,b200,⟨b201,b202⟩,b203,b204,⟨b205,b206⟩,b207,⟨b208,b209⟩,hl213,b214,hl218,hl222,b223,b224⟩:=hr194
 have:=hl213.len; have:n211 * 48 ≤ 140737488351232:=hl213.bnd; have:=hl213.le
 have:=hl218.len; have:n216 * 24 ≤ 140737488351232:=hl218.bnd; have:=hl218.le
 have:=hl222.len; have:n220 * 32 ≤ 140737488351232:=hl222.bnd; have:=hl222.le
 refine ⟨_,rfl,?_⟩
 refine st_m (m_lit (n:=1) (ps:=[(0,.agg #[.int .i64 ((MB.commit (MB.mk m_n m_self cz128 m_prom m_high (some pz134) jz129 m_os) pz134 z184).To),.int .u8 (((((MB.commit (MB.mk m_n m_self cz128 m_prom m_high (some pz134) jz129 m_os) pz134 z184).F).Kind):Nat):Int),.int .i64 (((MB.commit (MB.mk m_n m_self cz128 m_prom m_high (some pz134) jz129 m_os) pz134 z184).F).From),.int .u64 ((((((MB.commit (MB.mk m_n m_self cz128 m_prom m_high (some pz134) jz129 m_os) pz134 z184).F).ID).N):Nat):Int),.int .i64 ((((MB.commit (MB.mk m_n m_self cz128 m_prom m_high (some pz134) jz129 m_os) pz134 z184).F).ID).P),.int .u16 (((((MB.commit (MB.mk m_n m_self cz128 m_prom m_high (some pz134) jz129 m_os) pz134 z184).F).Set):Nat):Int),.int .u64 ((((((MB.commit (MB.mk m_n m_self cz128 m_prom m_high (some pz134) jz129 m_os) pz134 z184).F).Cur).N):Nat):Int),.int .i64 ((((MB.commit (MB.mk m_n m_self cz128 m_prom m_high (some pz134) jz129 m_os) pz134 z184).F).Cur).P),.int .u64 ((((((MB.commit (MB.mk m_n m_self cz128 m_prom m_high (some pz134) jz129 m_os) pz134 z184).F).Prom).N):Nat):Int),.int .i64 ((((MB.commit (MB.mk m_n m_self cz128 m_prom m_high (some pz134) jz129 m_os) pz134 z184).F).Prom).P),.slice A210 n211 c212,.int .u64 (((((MB.commit (MB.mk m_n m_self cz128 m_prom m_high (some pz134) jz129 m_os) pz134 z184).F).Base):Nat):Int),.slice A215 n216 c217,.slice A219 n220 c221,.int .u64 (((((MB.commit (MB.mk m_n m_self cz128 m_prom m_high (some pz134) jz129 m_os) pz134 z184).F).Ack):Nat):Int),.int .u64 (((((MB.commit (MB.mk m_n m_self cz128 m_prom m_high (some pz134) jz129 m_os) pz134 z184).F).Safe):Nat):Int)])]) (cs:=[.int .i64 ((MB.commit (MB.mk m_n m_self cz128 m_prom m_high (some pz134) jz129 m_os) pz134 z184).To),.int .u8 (((((MB.commit (MB.mk m_n m_self cz128 m_prom m_high (some pz134) jz129 m_os) pz134 z184).F).Kind):Nat):Int),.int .i64 (((MB.commit (MB.mk m_n m_self cz128 m_prom m_high (some pz134) jz129 m_os) pz134 z184).F).From),.int .u64 ((((((MB.commit (MB.mk m_n m_self cz128 m_prom m_high (some pz134) jz129 m_os) pz134 z184).F).ID).N):Nat):Int),.int .i64 ((((MB.commit (MB.mk m_n m_self cz128 m_prom m_high (some pz134) jz129 m_os) pz134 z184).F).ID).P),.int .u16 (((((MB.commit (MB.mk m_n m_self cz128 m_prom m_high (some pz134) jz129 m_os) pz134 z184).F).Set):Nat):Int),.int .u64 ((((((MB.commit (MB.mk m_n m_self cz128 m_prom m_high (some pz134) jz129 m_os) pz134 z184).F).Cur).N):Nat):Int),.int .i64 ((((MB.commit (MB.mk m_n m_self cz128 m_prom m_high (some pz134) jz129 m_os) pz134 z184).F).Cur).P),.int .u64 ((((((MB.commit (MB.mk m_n m_self cz128 m_prom m_high (some pz134) jz129 m_os) pz134 z184).F).Prom).N):Nat):Int),.int .i64 ((((MB.commit (MB.mk m_n m_self cz128 m_prom m_high (some pz134) jz129 m_os) pz134 z184).F).Prom).P),.slice A210 n211 c212,.int .u64 (((((MB.commit (MB.mk m_n m_self cz128 m_prom m_high (some pz134) jz129 m_os) pz134 z184).F).Base):Nat):Int),.slice A215 n216 c217,.slice A219 n220 c221,.int .u64 (((((MB.commit (MB.mk m_n m_self cz128 m_prom m_high (some pz134) jz129 m_os) pz134 z184).F).Ack):Nat):Int),.int .u64 (((((MB.commit (MB.mk m_n m_self cz128 m_prom m_high (some pz134) jz129 m_os) pz134 z184).F).Safe):Nat):Int)]) Tryd.underlying27 inf53 (.cons (.tmp rfl rfl) Evp.nil) (by decide) (by decide) rfl rfl hs192) ?_
 rintro _ w226 ⟨g225,rfl,hs228⟩
 have hs229:=hs228.p4
 have hr237:kOut.rep H123 (MB.commit (MB.mk m_n m_self cz128 m_prom m_high (some pz134) jz129 m_os) pz134 z184) [.int .i64 ((MB.commit (MB.mk m_n m_self cz128 m_prom m_high (some pz134) jz129 m_os) pz134 z184).To),.int .u8 (((((MB.commit (MB.mk m_n m_self cz128 m_prom m_high (some pz134) jz129 m_os) pz134 z184).F).Kind):Nat):Int),.int .i64 (((MB.commit (MB.mk m_n m_self cz128 m_prom m_high (some pz134) jz129 m_os) pz134 z184).F).From),.int .u64 ((((((MB.commit (MB.mk m_n m_self cz128 m_prom m_high (some pz134) jz129 m_os) pz134 z184).F).ID).N):Nat):Int),.int .i64 ((((MB.commit (MB.mk m_n m_self cz128 m_prom m_high (some pz134) jz129 m_os) pz134 z184).F).ID).P),.int .u16 (((((MB.commit (MB.mk m_n m_self cz128 m_prom m_high (some pz134) jz129 m_os) pz134 z184).F).Set):Nat):Int),.int .u64 ((((((MB.commit (MB.mk m_n m_self cz128 m_prom m_high (some pz134) jz129 m_os) pz134 z184).F).Cur).N):Nat):Int),.int .i64 ((((MB.commit (MB.mk m_n m_self cz128 m_prom m_high (some pz134) jz129 m_os) pz134 z184).F).Cur).P),.int .u64 ((((((MB.commit (MB.mk m_n m_self cz128 m_prom m_high (some pz134) jz129 m_os) pz134 z184).F).Prom).N):Nat):Int),.int .i64 ((((MB.commit (MB.mk m_n m_self cz128 m_prom m_high (some pz134) jz129 m_os) pz134 z184).F).Prom).P),.slice A210 n211 c212,.int .u64 (((((MB.commit (MB.mk m_n m_self cz128 m_prom m_high (some pz134) jz129 m_os) pz134 z184).F).Base):Nat):Int),.slice A215 n216 c217,.slice A219 n220 c221,.int .u64 (((((MB.commit (MB.mk m_n m_self cz128 m_prom m_high (some pz134) jz129 m_os) pz134 z184).F).Ack):Nat):Int),.int .u64 (((((MB.commit (MB.mk m_n m_self cz128 m_prom m_high (some pz134) jz129 m_os) pz134 z184).F).Safe):Nat):Int)]:=⟨A210,n211,c212,A215,n216,c217,A219,n220,c221,rfl,⟨b195,b196⟩,b197,⟨b198,b199⟩,b200,⟨b201,b202⟩,b203,b204,⟨b205,b206⟩,b207,⟨b208,b209⟩,hl213,b214,hl218,hl222,b223,b224⟩
 refine st_m (m_appK (d:=kOut) (ys:=[(MB.commit (MB.mk m_n m_self cz128 m_prom m_high (some pz134) jz129 m_os) pz134 z184)]) (news:=[.int .i64 ((MB.commit (MB.mk m_n m_self cz128 m_prom m_high (some pz134) jz129 m_os) pz134 z184).To),.int .u8 (((((MB.commit (MB.mk m_n m_self cz128 m_prom m_high (some pz134) jz129 m_os) pz134 z184).F).Kind):Nat):Int),.int .i64 (((MB.commit (MB.mk m_n m_self cz128 m_prom m_high (some pz134) jz129 m_os) pz134 z184).F).From),.int .u64 ((((((MB.commit (MB.mk m_n m_self cz128 m_prom m_high (some pz134) jz129 m_os) pz134 z184).F).ID).N):Nat):Int),.int .i64 ((((MB.commit (MB.mk m_n m_self cz128 m_prom m_high (some pz134) jz129 m_os) pz134 z184).F).ID).P),.int .u16 (((((MB.commit (MB.mk m_n m_self cz128 m_prom m_high (some pz134) jz129 m_os) pz134 z184).F).Set):Nat):Int),.int .u64 ((((((MB.commit (MB.mk m_n m_self cz128 m_prom m_high (some pz134) jz129 m_os) pz134 z184).F).Cur).N):Nat):Int),.int .i64 ((((MB.commit (MB.mk m_n m_self cz128 m_prom m_high (some pz134) jz129 m_os) pz134 z184).F).Cur).P),.int .u64 ((((((MB.commit (MB.mk m_n m_self cz128 m_prom m_high (some pz134) jz129 m_os) pz134 z184).F).Prom).N):Nat):Int),.int .i64 ((((MB.commit (MB.mk m_n m_self cz128 m_prom m_high (some pz134) jz129 m_os) pz134 z184).F).Prom).P),.slice A210 n211 c212,.int .u64 (((((MB.commit (MB.mk m_n m_self cz128 m_prom m_high (some pz134) jz129 m_os) pz134 z184).F).Base):Nat):Int),.slice A215 n216 c217,.slice A219 n220 c221,.int .u64 (((((MB.commit (MB.mk m_n m_self cz128 m_prom m_high (some pz134) jz129 m_os) pz134 z184).F).Ack):Nat):Int),.int .u64 (((((MB.commit (MB.mk m_n m_self cz128 m_prom m_high (some pz134) jz129 m_os) pz134 z184).F).Safe):Nat):Int)]) Tryd.underlying27 inf53 rfl hs229 ok_out hk_out (.tmp rfl rfl) (.tmp rfl rfl) (Kn.rows_one hr237) rfl (hs229.at_ 1 rfl 0 rfl) (by have:([(MB.commit (MB.mk m_n m_self cz128 m_prom m_high (some pz134) jz129 m_os) pz134 z184)]:List GOut).length = 1:=rfl; omega) (by decide)) ?_
 rintro v230 w231 ⟨cs232,ok233,hk234,hs235⟩
 have hn236:(out ++ [(MB.commit (MB.mk m_n m_self cz128 m_prom m_high (some pz134) jz129 m_os) pz134 z184)]).length = out.length + 1:=by simp
 refine st (v:=v230) (x_assign (.tmp rfl rfl)) ?_
 refine c_nil (n_block (n_then (c_region (st (v:=.int .i64 (((i + 1):Nat):Int)) (x_add (k:=.i64) (a:=((i:Nat):Int)) (b:=1) (.tmp rfl hρ178) .const ((w64 (by omega) (by omega)).trans (by omega))) ?_))))
 refine st (v:=.int .i64 (((i + 1):Nat):Int)) (x_move (.tmp rfl rfl)) ?_
 refine c_nil ?_
 refine n_then ⟨_,_,rfl,?_,(out ++ [(MB.commit (MB.mk m_n m_self cz128 m_prom m_high (some pz134) jz129 m_os) pz134 z184)]),v230,cs232,(i + 1),hρ173,hρ174,rfl,hρ176,hρ177,rfl,ok233,hk234,(by omega),(map_next hz185 hout),(by have h9:=hol; simp only [List.length_append,List.length_singleton]; omega),((((((hs235.p1).drop.p3).p3).p3).p4).p4),rfl⟩
 omega
 have hp180:¬ ((((i:Nat):Int):Int) < (((lst (wto pz134.v.Set ((m_self:Nat):Int))).length:Nat):Int)):=of_decide_eq_false hc180
 refine c_cond_f (t:=false) (.tmp rfl (cVb hc180)) rfl ?_
 refine c_exit (x_then (x_then (x_here (n_then (c_seq (c_region (st (v:=v_out) (x_move (.tmp rfl hρ175)) ?_)))))))
 refine st (v:=.pointer (some ⟨gi139,0,none⟩)) (x_move (.tmp rfl hρ174)) ?_
 refine st (v:=v_out) (x_assign (.tmp rfl rfl)) ?_
 refine st (v:=.pointer (some ⟨gi139,0,none⟩)) (x_assign (.tmp rfl rfl)) ?_
 refine st (v:=.int .i64 0) (x_assign .const) ?_
 refine c_nil (n_then (c_ret (leave_ret (res_three (v:=v_out) (u:=.pointer (some ⟨gi139,0,none⟩)) (x:=.int .i64 0) rfl (.mk rfl rfl) (.mk rfl rfl) (.mk rfl rfl)) ?_)))
 have hfs:f.States = [e79]:=one_of hx83 (by omega)
 have haok:=acc_ok (m:=(MB.mk m_n m_self m_cur m_prom m_high (some p_m) m_jl m_os)) (by omega) rfl hc64
 have hpq:(MB.accept (MB.mk m_n m_self m_cur m_prom m_high (some p_m) m_jl m_os) f) = _:=acc_done (out:=out) haok hfs hX141 hme137 hpv (by rw [hout,List.take_of_length_le (by omega)])
 rw [hpq]
 have okm238:MemB H123 m_n m_self cz128 m_prom m_high A130 jn131 jc132 jz129 m_os:=⟨hn1_m,hn16_m,hsf_m,⟨okm127.cur.n,okm127.cur.p⟩,okm127.set,⟨okm127.prom.n,okm127.prom.p⟩,okm127.high,okm127.joined,okm127.len,okm127.oth⟩
 have okp239:PropOk H123 pz134 sv135 sc136:=⟨⟨hkp133.id.n,hkp133.id.p⟩,hkp133.set,hkp133.who,hkp133.ok,hkp133.hk⟩
 exact ⟨H123,v_out,c_out,.pointer (some ⟨gi139,0,none⟩),cz128,jz129,A130,jn131,jc132,pz134,sv135,sc136,hle124,rfl,ok_out,hk_out,(InstAt.some_of rfl hrd142 ⟨A153,n154,c155,rfl,b149,⟨b150,b151⟩,b152,hl156⟩),okm238,okp239,rfl,(((((hs179.p1).drop.p3).p3).p3).p3)⟩
end Go.Proofs.YtcccaihjgoaehaaDoor
