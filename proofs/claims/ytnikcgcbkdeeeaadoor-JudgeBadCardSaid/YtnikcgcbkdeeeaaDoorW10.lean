/- Steps of the proofs over the functions of this seat, printed by a program (gen.py) and checked by Lean. -/
import Derived.Test.YtnikcgcbkdeeeaaDoorW01
import Derived.Test.YtnikcgcbkdeeeaaDoorW00
import Derived.Test.YtnikcgcbkdeeeaaDoorW09
set_option linter.unusedVariables false
set_option linter.unusedSimpArgs false
namespace Go.Proofs.YtnikcgcbkdeeeaaDoor
open Go Go.FM Go.Proofs
attribute [local irreducible] wpList wpQuiet Code.wp Calls
set_option maxHeartbeats 8000000 in
theorem jbad_law {H:Hp} {w:World} {L:List Res} (hs:St H w (L)) (n:Nat) (b_n:n < 256) {A_runs:Option Addr} {n_runs c_runs:Nat} (runs:(List GRun)) (h_runs:Sl kRun H A_runs n_runs c_runs runs) (who:Nat) (b_who:who < 256) (at_:Nat) (b_at_:at_ < 256) (how:Nat) (b_how:how < 256) (htab:Tab H):Calls Tryd.prog 7 #[.int .u8 ((n:Nat):Int),.slice A_runs n_runs c_runs,.int .u8 ((who:Nat):Int),.int .u8 ((at_:Nat):Int),.int .u8 ((how:Nat):Int)] w (fun e w' => e = .returned (.bool true)∧St H w' (L)):=by
 have:=h_runs.len; have:=h_runs.le; have:n_runs * 80 ≤ 140737488351232:=h_runs.bnd
 refine enter (args:=[.int .u8 ((n:Nat):Int),.slice A_runs n_runs c_runs,.int .u8 ((who:Nat):Int),.int .u8 ((at_:Nat):Int),.int .u8 ((how:Nat):Int)]) (N:=137) Tryd.func7 rfl rfl rfl ?_
 have htl:(tracesP (1 + (n % 6)) runs).length = 1 + n % 6:=traces_len
 refine c_seq (c_region (st (v:=.bool false) (x_assign .const) ?_))
 refine c_nil (n_then (c_seq (c_seq (c_region (st_c cb10 .func (evs0 ) (awake_spec hs  ) ?_)))))
 rintro e w1 ⟨rfl,hs2⟩
 refine ⟨_,rfl,?_⟩
 refine st (v:=.bool false) (x_not (b:=true) (.tmp rfl rfl)) ?_
 refine st (v:=.bool false) (x_move (.tmp rfl rfl)) ?_
 refine g_yes (yl (dj:=18) (b:=false) rfl rfl rfl) ?_
 refine st (v:=.slice A_runs n_runs c_runs) (x_move (.tmp rfl rfl)) ?_
 refine g_yes (yl (dj:=18) (b:=false) rfl rfl rfl) ?_
 refine st (v:=.int .i64 ((n_runs:Nat):Int)) (x_len (n:=n_runs) Tryd.underlying38 (.tmp rfl rfl)) ?_
 refine g_yes (yl (dj:=18) (b:=false) rfl rfl rfl) ?_
 refine st (v:=.bool (decide ((6:Int) < ((n_runs:Nat):Int)))) (x_gtr (k:=.i64) (a:=((n_runs:Nat):Int)) (b:=6) (.tmp rfl rfl) .const) ?_
 refine st (v:=.bool (decide ((6:Int) < ((n_runs:Nat):Int)))) (x_pick_f (.tmp rfl rfl) (.tmp rfl rfl)) ?_
 refine c_nil (n_then ?_)
 rcases Bool.eq_false_or_eq_true (decide ((6:Int) < ((n_runs:Nat):Int))) with hc3 | hc3
 have hp3:(6:Int) < ((n_runs:Nat):Int):=of_decide_eq_true hc3
 refine c_cond_t (t:=true) (.tmp rfl (cVb hc3)) rfl ?_
 refine c_seq (c_region (st_c cb10 .func (evs0 ) (awake_spec hs2  ) ?_))
 rintro e w4 ⟨rfl,hs5⟩
 refine ⟨_,rfl,?_⟩
 refine st (v:=.bool true) (x_assign (.tmp rfl rfl)) ?_
 refine c_nil (n_then (c_ret (r_then (leave_ret (res_one (v:=.bool true) rfl (.mk rfl rfl)) ?_))))
 exact ⟨rfl,hs5⟩
 have hp3:¬ ((6:Int) < ((n_runs:Nat):Int)):=of_decide_eq_false hc3
 refine c_cond_f (t:=false) (.tmp rfl (cVb hc3)) rfl ?_
 refine c_skip (n_then (c_seq (c_region (st (v:=.int .u8 ((n:Nat):Int)) (x_move (.tmp rfl rfl)) ?_))))
 refine st (v:=.int .i64 ((n:Nat):Int)) (x_conv (k:=.u8) (a:=((n:Nat):Int)) Tryd.underlying5 Tryd.underlying3 (.tmp rfl rfl) (w64 (by omega) (by omega))) ?_
 refine st (v:=.int .i64 (((n % 6):Nat):Int)) (x_remN (k:=.i64) (m:=n) (n:=6) (.tmp rfl rfl) .const (by omega)) ?_
 refine st (v:=.int .i64 (((1 + (n % 6)):Nat):Int)) (x_add (k:=.i64) (a:=1) (b:=(((n % 6):Nat):Int)) .const (.tmp rfl rfl) ((w64 (by omega) (by omega)).trans (by omega))) ?_
 refine st (v:=.slice A_runs n_runs c_runs) (x_move (.tmp rfl rfl)) ?_
 refine st_c cb17 .func (evs2 (.tmp rfl rfl) (.tmp rfl rfl)) (traces_spec hs2 (1 + (n % 6)) runs h_runs (by omega) (by omega)) ?_
 rintro e w6 ⟨H8,v10,cs13,hle9,rfl,ok11,hk14,hs7⟩
 have:=h_runs.len
 refine ⟨_,rfl,?_⟩
 refine st (v:=v10) (x_assign (.tmp rfl rfl)) ?_
 refine c_nil (n_then (c_seq (c_region (st (v:=.int .u8 ((who:Nat):Int)) (x_move (.tmp rfl rfl)) ?_))))
 refine st (v:=.int .i64 ((who:Nat):Int)) (x_conv (k:=.u8) (a:=((who:Nat):Int)) Tryd.underlying5 Tryd.underlying3 (.tmp rfl rfl) (w64 (by omega) (by omega))) ?_
 refine st (v:=v10) (x_move (.tmp rfl rfl)) ?_
 obtain ⟨A15,c16,hv17,hc18⟩:=ok11.slice
 refine st (v:=.int .i64 (((tracesP (1 + (n % 6)) runs).length:Nat):Int)) (x_len (n:=(tracesP (1 + (n % 6)) runs).length) Tryd.underlying36 (.tmp rfl hv17)) ?_
 have:who % (tracesP (1 + (n % 6)) runs).length < (tracesP (1 + (n % 6)) runs).length:=Nat.mod_lt _ (by omega)
 refine st (v:=.int .i64 (((who % (tracesP (1 + (n % 6)) runs).length):Nat):Int)) (x_remN (k:=.i64) (m:=who) (n:=(tracesP (1 + (n % 6)) runs).length) (.tmp rfl rfl) (.tmp rfl rfl) (by omega)) ?_
 refine st (v:=.int .i64 (((who % (tracesP (1 + (n % 6)) runs).length):Nat):Int)) (x_assign (.tmp rfl rfl)) ?_
 refine c_nil (n_then (c_seq (c_seq (c_region (st (v:=v10) (x_move (.tmp rfl rfl)) ?_)))))
 refine st (v:=.int .i64 (((who % (tracesP (1 + (n % 6)) runs).length):Nat):Int)) (x_move (.tmp rfl rfl)) ?_
 obtain ⟨g19,c20,hv21⟩:=ok11.pos (by omega)
 obtain ⟨e22,cs23,hx24,hr25,hsub26⟩:=Kn.rows_get (i:=(who % (tracesP (1 + (n % 6)) runs).length)) hk14 (by omega)
 obtain ⟨A27,n28,c29,rfl,hl30⟩:=hr25
 have:=hl30.len; have:n28 * 64 ≤ 140737488351232:=hl30.bnd; have:=hl30.le
 have hsz_e22:e22.length ≤ 186:=traces_small _ (List.mem_of_getElem? hx24)
 refine st (v:=.pointer (some ⟨g19,((who % (tracesP (1 + (n % 6)) runs).length) * 1),none⟩)) (ixo36 (.tmp rfl hv21) rfl (i:=(((who % (tracesP (1 + (n % 6)) runs).length):Nat):Int)) (.tmp rfl rfl) (by omega) (by omega) (by omega)) ?_
 refine st (v:=.slice A27 n28 c29) (ld41 (.tmp rfl rfl) ((hs7.rowAt 0 rfl hv21 ((who % (tracesP (1 + (n % 6)) runs).length) * 1) hsub26).cell 0 rfl)) ?_
 refine st (v:=.int .i64 ((n28:Nat):Int)) (x_len (n:=n28) Tryd.underlying41 (.tmp rfl rfl)) ?_
 refine st (v:=.bool (decide ((((n28:Nat):Int):Int) = 0))) (x_eql (k:=.i64) (a:=((n28:Nat):Int)) (b:=0) (.tmp rfl rfl) .const) ?_
 refine c_nil (n_then ?_)
 rcases Bool.eq_false_or_eq_true (decide ((((n28:Nat):Int):Int) = 0)) with hc31 | hc31
 have hp31:(((n28:Nat):Int):Int) = 0:=of_decide_eq_true hc31
 refine c_cond_t (t:=true) (.tmp rfl (cVb hc31)) rfl ?_
 refine c_seq (c_region (st (v:=.bool true) (x_assign .const) ?_))
 refine c_nil (n_then (c_ret (r_then (leave_ret (res_one (v:=.bool true) rfl (.mk rfl rfl)) ?_))))
 exact ⟨rfl,(hs7.drop.weaken hle9)⟩
 have hp31:¬ ((((n28:Nat):Int):Int) = 0):=of_decide_eq_false hc31
 refine c_cond_f (t:=false) (.tmp rfl (cVb hc31)) rfl ?_
 refine c_skip (n_then (c_seq (c_region (st (v:=.int .u8 ((at_:Nat):Int)) (x_move (.tmp rfl rfl)) ?_))))
 refine st (v:=.int .i64 ((at_:Nat):Int)) (x_conv (k:=.u8) (a:=((at_:Nat):Int)) Tryd.underlying5 Tryd.underlying3 (.tmp rfl rfl) (w64 (by omega) (by omega))) ?_
 refine st (v:=v10) (x_move (.tmp rfl rfl)) ?_
 refine st (v:=.int .i64 (((who % (tracesP (1 + (n % 6)) runs).length):Nat):Int)) (x_move (.tmp rfl rfl)) ?_
 obtain ⟨g32,c33,hv34⟩:=ok11.pos (by omega)
 refine st (v:=.pointer (some ⟨g32,((who % (tracesP (1 + (n % 6)) runs).length) * 1),none⟩)) (ixo36 (.tmp rfl hv34) rfl (i:=(((who % (tracesP (1 + (n % 6)) runs).length):Nat):Int)) (.tmp rfl rfl) (by omega) (by omega) (by omega)) ?_
 refine st (v:=.slice A27 n28 c29) (ld41 (.tmp rfl rfl) ((hs7.rowAt 0 rfl hv34 ((who % (tracesP (1 + (n % 6)) runs).length) * 1) hsub26).cell 0 rfl)) ?_
 refine st (v:=.int .i64 ((n28:Nat):Int)) (x_len (n:=n28) Tryd.underlying41 (.tmp rfl rfl)) ?_
 have:at_ % n28 < n28:=Nat.mod_lt _ (by omega)
 refine st (v:=.int .i64 (((at_ % n28):Nat):Int)) (x_remN (k:=.i64) (m:=at_) (n:=n28) (.tmp rfl rfl) (.tmp rfl rfl) (by omega)) ?_
 refine st (v:=.int .i64 (((at_ % n28):Nat):Int)) (x_assign (.tmp rfl rfl)) ?_
 refine c_nil (n_then (c_seq (c_region (st (v:=v10) (x_move (.tmp rfl rfl)) ?_))))
 refine st (v:=.int .i64 (((who % (tracesP (1 + (n % 6)) runs).length):Nat):Int)) (x_move (.tmp rfl rfl)) ?_
 obtain ⟨g35,c36,hv37⟩:=ok11.pos (by omega)
 refine st (v:=.pointer (some ⟨g35,((who % (tracesP (1 + (n % 6)) runs).length) * 1),none⟩)) (ixo36 (.tmp rfl hv37) rfl (i:=(((who % (tracesP (1 + (n % 6)) runs).length):Nat):Int)) (.tmp rfl rfl) (by omega) (by omega) (by omega)) ?_
 refine st (v:=.slice A27 n28 c29) (ld41 (.tmp rfl rfl) ((hs7.rowAt 0 rfl hv37 ((who % (tracesP (1 + (n % 6)) runs).length) * 1) hsub26).cell 0 rfl)) ?_
 refine st (v:=.int .i64 (((at_ % n28):Nat):Int)) (x_move (.tmp rfl rfl)) ?_
 obtain ⟨e38,b39,o40,cs41,hx42,hA43,hr44,hat45⟩:=hl30.get (i:=(at_ % n28)) (by omega)
 obtain ⟨A53,n54,c55,rfl,b46,b47,⟨b48,b49⟩,b50,⟨b51,b52⟩,hy56⟩:=hr44
 have:=hy56.len; have:=hy56.bnd; have:=hy56.le
 have hat45x:∀ {w:World} {L:List Res},St H8 w L → At w ⟨b39,o40 + (at_ % n28) * 6,none⟩ [.int .u8 ((e38.Kind:Nat):Int),.int .u64 ((e38.View.ID.N:Nat):Int),.int .i64 e38.View.ID.P,.int .u16 ((e38.View.Set:Nat):Int),.int .i64 e38.From,.slice A53 n54 c55]:=fun h => hat45 h
 have hev_e38:=traces_ev' (by omega) hx24 hx42
 refine st (v:=.pointer (some ⟨b39,(o40 + (at_ % n28) * 6),none⟩)) (ixo41 (.tmp rfl rfl) hA43 (i:=(((at_ % n28):Nat):Int)) (.tmp rfl rfl) (by omega) (by omega) (by omega)) ?_
 refine st (v:=.agg #[.int .u8 ((e38.Kind:Nat):Int),.int .u64 ((e38.View.ID.N:Nat):Int),.int .i64 e38.View.ID.P,.int .u16 ((e38.View.Set:Nat):Int),.int .i64 e38.From,.slice A53 n54 c55]) (ld49 (cs:=[.int .u8 ((e38.Kind:Nat):Int),.int .u64 ((e38.View.ID.N:Nat):Int),.int .i64 e38.View.ID.P,.int .u16 ((e38.View.Set:Nat):Int),.int .i64 e38.From,.slice A53 n54 c55]) (.tmp rfl rfl) ((hat45x hs7).sub 0 rfl) rfl) ?_
 refine st_m (al49 (cs:=[.int .u8 0,.int .u64 0,.int .i64 0,.int .u16 0,.int .i64 0,.slice none 0 0]) hs7 rfl) ?_
 rintro _ w58 ⟨g57,rfl,hs60⟩
 refine st_m0 (sto49 (cs':=[.int .u8 ((e38.Kind:Nat):Int),.int .u64 ((e38.View.ID.N:Nat):Int),.int .i64 e38.View.ID.P,.int .u16 ((e38.View.Set:Nat):Int),.int .i64 e38.From,.slice A53 n54 c55]) (i:=0) hs60 (v:=.agg #[.int .u8 ((e38.Kind:Nat):Int),.int .u64 ((e38.View.ID.N:Nat):Int),.int .i64 e38.View.ID.P,.int .u16 ((e38.View.Set:Nat):Int),.int .i64 e38.From,.slice A53 n54 c55]) (.tmp rfl rfl) (.tmp rfl rfl) rfl (Nat.le_of_ble_eq_true rfl) (oneA rfl) rfl) ?_
 rintro w61 hs63
 refine c_nil (n_then (c_seq (c_region (st (v:=.slice none 0 0) (x_assign .const) ?_))))
 refine c_nil (n_then (c_seq (c_region (st (v:=.slice none 0 0) (x_move (.tmp rfl rfl)) ?_))))
 refine st (v:=v10) (x_move (.tmp rfl rfl)) ?_
 refine st (v:=.int .i64 (((who % (tracesP (1 + (n % 6)) runs).length):Nat):Int)) (x_move (.tmp rfl rfl)) ?_
 obtain ⟨g64,c65,hv66⟩:=ok11.pos (by omega)
 refine st (v:=.pointer (some ⟨g64,((who % (tracesP (1 + (n % 6)) runs).length) * 1),none⟩)) (ixo36 (.tmp rfl hv66) rfl (i:=(((who % (tracesP (1 + (n % 6)) runs).length):Nat):Int)) (.tmp rfl rfl) (by omega) (by omega) (by omega)) ?_
 refine st (v:=.slice A27 n28 c29) (ld41 (.tmp rfl rfl) ((hs63.rowAt 1 rfl hv66 ((who % (tracesP (1 + (n % 6)) runs).length) * 1) hsub26).cell 0 rfl)) ?_
 refine st (v:=.int .i64 (((at_ % n28):Nat):Int)) (x_move (.tmp rfl rfl)) ?_
 refine st (v:=.slice A27 (at_ % n28) c29) (sl_h (d:=kEvent) Tryd.underlying41 inf49 (a:=(((at_ % n28):Nat):Int)) (.tmp rfl rfl) (.tmp rfl rfl) (by omega) (by omega)) ?_
 have hs67:St H8 _ (row 49 6 (.slice none 0 0) (([]:List GEvent).length) []::obj g57 49 [.int .u8 ((e38.Kind:Nat):Int),.int .u64 ((e38.View.ID.N:Nat):Int),.int .i64 e38.View.ID.P,.int .u16 ((e38.View.Set:Nat):Int),.int .i64 e38.From,.slice A53 n54 c55]::row 41 1 v10 ((tracesP (1 + (n % 6)) runs).length) cs13::L):=hs63.krowNil 49 kEvent
 have:([]:List GEvent).length = 0:=rfl
 refine st_m (m_appSl (d:=kEvent) (ys:=(e22.take (at_ % n28))) Tryd.underlying41 inf49 rfl hs67 (RowOk.knil kEvent) (Kn.rows_nil _ _) (.tmp rfl rfl) (.tmp rfl rfl) (hl30.take (k:=(at_ % n28)) (by omega)) (by omega) (by decide)) ?_
 rintro v69 w70 ⟨cs71,ok72,hk73,hs74⟩
 have hn75:(([]:List GEvent) ++ (e22.take (at_ % n28))).length = ([]:List GEvent).length + (at_ % n28):=by rw [List.length_append,(hl30.take (k:=(at_ % n28)) (by omega)).len]
 have hn75:(e22.take (at_ % n28)).length = (at_ % n28):=(hl30.take (k:=(at_ % n28)) (by omega)).len
 have ok72:RowOk kEvent.sz v69 (e22.take (at_ % n28)).length cs71:=ok72
 have hk73:kEvent.toKn.rows H8 (e22.take (at_ % n28)) cs71:=hk73
 have hs74:St H8 _ (row 49 6 v69 ((e22.take (at_ % n28)).length) cs71::obj g57 49 [.int .u8 ((e38.Kind:Nat):Int),.int .u64 ((e38.View.ID.N:Nat):Int),.int .i64 e38.View.ID.P,.int .u16 ((e38.View.Set:Nat):Int),.int .i64 e38.From,.slice A53 n54 c55]::row 41 1 v10 ((tracesP (1 + (n % 6)) runs).length) cs13::L):=hs74
 refine st (v:=v69) (x_assign (.tmp rfl rfl)) ?_
 refine c_nil (n_then (c_seq (c_seq (c_region (st (v:=.int .u8 ((how:Nat):Int)) (x_move (.tmp rfl rfl)) ?_)))))
 refine st (v:=.int .u8 (((how % 6):Nat):Int)) (x_remN (k:=.u8) (m:=how) (n:=6) (.tmp rfl rfl) .const (by omega)) ?_
 refine c_nil (n_then (c_block (c_seq (c_region (st (v:=.bool (decide (((((how % 6):Nat):Int):Int) = 1))) (x_eql (k:=.u8) (a:=(((how % 6):Nat):Int)) (b:=1) (.tmp rfl rfl) .const) ?_)))))
 refine st (v:=.bool (decide (((((how % 6):Nat):Int):Int) = 1))) (x_assign (.tmp rfl rfl)) ?_
 refine c_nil (n_then ?_)
 rcases Bool.eq_false_or_eq_true (decide (((((how % 6):Nat):Int):Int) = 1)) with hc76 | hc76
 have hp76:((((how % 6):Nat):Int):Int) = 1:=of_decide_eq_true hc76
 refine c_cond_t (t:=true) (.tmp rfl (cVb hc76)) rfl ?_
 refine c_region (st (v:=v69) (x_move (.tmp rfl rfl)) ?_)
 refine st (v:=.agg #[.int .u8 ((e38.Kind:Nat):Int),.int .u64 ((e38.View.ID.N:Nat):Int),.int .i64 e38.View.ID.P,.int .u16 ((e38.View.Set:Nat):Int),.int .i64 e38.From,.slice A53 n54 c55]) (ld49 (cs:=[.int .u8 ((e38.Kind:Nat):Int),.int .u64 ((e38.View.ID.N:Nat):Int),.int .i64 e38.View.ID.P,.int .u16 ((e38.View.Set:Nat):Int),.int .i64 e38.From,.slice A53 n54 c55]) (.tmp rfl rfl) (hs74.at_ 1 rfl (0) rfl) rfl) ?_
 refine st (v:=.agg #[.int .u8 ((e38.Kind:Nat):Int),.int .u64 ((e38.View.ID.N:Nat):Int),.int .i64 e38.View.ID.P,.int .u16 ((e38.View.Set:Nat):Int),.int .i64 e38.From,.slice A53 n54 c55]) (ld49 (cs:=[.int .u8 ((e38.Kind:Nat):Int),.int .u64 ((e38.View.ID.N:Nat):Int),.int .i64 e38.View.ID.P,.int .u16 ((e38.View.Set:Nat):Int),.int .i64 e38.From,.slice A53 n54 c55]) (.tmp rfl rfl) (hs74.at_ 1 rfl (0) rfl) rfl) ?_
 refine st_m (m_lit (n:=2) (ps:=[(0,.agg #[.int .u8 ((e38.Kind:Nat):Int),.int .u64 ((e38.View.ID.N:Nat):Int),.int .i64 e38.View.ID.P,.int .u16 ((e38.View.Set:Nat):Int),.int .i64 e38.From,.slice A53 n54 c55]),(1,.agg #[.int .u8 ((e38.Kind:Nat):Int),.int .u64 ((e38.View.ID.N:Nat):Int),.int .i64 e38.View.ID.P,.int .u16 ((e38.View.Set:Nat):Int),.int .i64 e38.From,.slice A53 n54 c55])]) (cs:=[.int .u8 ((e38.Kind:Nat):Int),.int .u64 ((e38.View.ID.N:Nat):Int),.int .i64 e38.View.ID.P,.int .u16 ((e38.View.Set:Nat):Int),.int .i64 e38.From,.slice A53 n54 c55,.int .u8 ((e38.Kind:Nat):Int),.int .u64 ((e38.View.ID.N:Nat):Int),.int .i64 e38.View.ID.P,.int .u16 ((e38.View.Set:Nat):Int),.int .i64 e38.From,.slice A53 n54 c55]) Tryd.underlying41 inf49 (.cons (.tmp rfl rfl) (.cons (.tmp rfl rfl) Evp.nil)) (by decide) (by decide) rfl rfl hs74) ?_
 rintro _ w78 ⟨g77,rfl,hs80⟩
 have hs81:=hs80.p1
 have hr89:kEvent.rep H8 e38 [.int .u8 ((e38.Kind:Nat):Int),.int .u64 ((e38.View.ID.N:Nat):Int),.int .i64 e38.View.ID.P,.int .u16 ((e38.View.Set:Nat):Int),.int .i64 e38.From,.slice A53 n54 c55]:=⟨A53,n54,c55,rfl,b46,b47,⟨b48,b49⟩,b50,⟨b51,b52⟩,hy56⟩
 have hr90:kEvent.rep H8 e38 [.int .u8 ((e38.Kind:Nat):Int),.int .u64 ((e38.View.ID.N:Nat):Int),.int .i64 e38.View.ID.P,.int .u16 ((e38.View.Set:Nat):Int),.int .i64 e38.From,.slice A53 n54 c55]:=⟨A53,n54,c55,rfl,b46,b47,⟨b48,b49⟩,b50,⟨b51,b52⟩,hy56⟩
 refine st_m (m_appK (d:=kEvent) (ys:=[e38,e38]) (news:=[.int .u8 ((e38.Kind:Nat):Int),.int .u64 ((e38.View.ID.N:Nat):Int),.int .i64 e38.View.ID.P,.int .u16 ((e38.View.Set:Nat):Int),.int .i64 e38.From,.slice A53 n54 c55,.int .u8 ((e38.Kind:Nat):Int),.int .u64 ((e38.View.ID.N:Nat):Int),.int .i64 e38.View.ID.P,.int .u16 ((e38.View.Set:Nat):Int),.int .i64 e38.From,.slice A53 n54 c55]) Tryd.underlying41 inf49 rfl hs81 ok72 hk73 (.tmp rfl rfl) (.tmp rfl rfl) (Kn.rows_snoc (Kn.rows_one hr89) hr90) rfl (hs81.at_ 1 rfl 0 rfl) (by have:([e38,e38]:List GEvent).length = 2:=rfl; omega) (by decide)) ?_
 rintro v82 w83 ⟨cs84,ok85,hk86,hs87⟩
 have hn88:((e22.take (at_ % n28)) ++ [e38,e38]).length = (e22.take (at_ % n28)).length + 2:=by simp
 refine st (v:=v82) (x_assign (.tmp rfl rfl)) ?_
 refine c_nil (n_block (n_then (c_seq (c_region (st (v:=v10) (x_move (.tmp rfl rfl)) ?_)))))
 refine st (v:=.int .i64 (((who % (tracesP (1 + (n % 6)) runs).length):Nat):Int)) (x_move (.tmp rfl rfl)) ?_
 refine st (v:=v82) (x_move (.tmp rfl rfl)) ?_
 refine st (v:=v10) (x_move (.tmp rfl rfl)) ?_
 refine st (v:=.int .i64 (((who % (tracesP (1 + (n % 6)) runs).length):Nat):Int)) (x_move (.tmp rfl rfl)) ?_
 obtain ⟨g91,c92,hv93⟩:=ok11.pos (by omega)
 refine st (v:=.pointer (some ⟨g91,((who % (tracesP (1 + (n % 6)) runs).length) * 1),none⟩)) (ixo36 (.tmp rfl hv93) rfl (i:=(((who % (tracesP (1 + (n % 6)) runs).length):Nat):Int)) (.tmp rfl rfl) (by omega) (by omega) (by omega)) ?_
 refine st (v:=.slice A27 n28 c29) (ld41 (.tmp rfl rfl) ((hs87.rowAt 3 rfl hv93 ((who % (tracesP (1 + (n % 6)) runs).length) * 1) hsub26).cell 0 rfl)) ?_
 refine st (v:=.int .i64 (((at_ % n28):Nat):Int)) (x_move (.tmp rfl rfl)) ?_
 refine st (v:=.int .i64 ((((at_ % n28) + 1):Nat):Int)) (x_add (k:=.i64) (a:=(((at_ % n28):Nat):Int)) (b:=1) (.tmp rfl rfl) .const ((w64 (by omega) (by omega)).trans (by omega))) ?_
 refine st (v:=.slice (cutA A27 c29 ((at_ % n28) + 1) 6) (n28 - ((at_ % n28) + 1)) (c29 - ((at_ % n28) + 1))) (sl_l (d:=kEvent) Tryd.underlying41 inf49 (a:=((((at_ % n28) + 1):Nat):Int)) (.tmp rfl rfl) (.tmp rfl rfl) (by omega) (by omega) (by omega)) ?_
 refine st_m (m_appSl (d:=kEvent) (ys:=(e22.drop ((at_ % n28) + 1))) Tryd.underlying41 inf49 rfl hs87 ok85 hk86 (.tmp rfl rfl) (.tmp rfl rfl) (hl30.drop (k:=((at_ % n28) + 1)) (by omega)) (by omega) (by decide)) ?_
 rintro v94 w95 ⟨cs96,ok97,hk98,hs99⟩
 have hn100:(((e22.take (at_ % n28)) ++ [e38,e38]) ++ (e22.drop ((at_ % n28) + 1))).length = ((e22.take (at_ % n28)) ++ [e38,e38]).length + (n28 - ((at_ % n28) + 1)):=by rw [List.length_append,(hl30.drop (k:=((at_ % n28) + 1)) (by omega)).len]
 obtain ⟨g101,c102,hv103⟩:=ok11.pos (by omega)
 refine st (v:=.pointer (some ⟨g101,((who % (tracesP (1 + (n % 6)) runs).length) * 1),none⟩)) (ixo36 (.tmp rfl hv103) rfl (i:=(((who % (tracesP (1 + (n % 6)) runs).length):Nat):Int)) (.tmp rfl rfl) (by omega) (by omega) (by omega)) ?_
 have hs104:=hs99.p3
 have hs110:=hs104.p1
 have:(((e22.take (at_ % n28)) ++ [e38,e38]) ++ (e22.drop ((at_ % n28) + 1))).length * 64 ≤ 140737488351232:=by omega
 obtain ⟨H111,A112,c113,hle114,hs115,rfl,sp116⟩:=hs110.freezeSl (d:=kEvent) ok97 hk98 this
 have:=sp116.len; have:=sp116.le
 have hl117:(who % (tracesP (1 + (n % 6)) runs).length) * 1 + 1 ≤ cs13.length:=by have h1:=((Kn.rows_mono hk14 hle114)).1; have h2:(kSl kEvent).sz = 1:=rfl; rw [h2] at h1; omega
 have hr109:(kSl kEvent).rep H111 (((e22.take (at_ % n28)) ++ [e38,e38]) ++ (e22.drop ((at_ % n28) + 1))) [.slice A112 ((((e22.take (at_ % n28)) ++ [e38,e38]) ++ (e22.drop ((at_ % n28) + 1))).length) c113]:=⟨A112,((((e22.take (at_ % n28)) ++ [e38,e38]) ++ (e22.drop ((at_ % n28) + 1))).length),c113,rfl,sp116⟩
 refine st_m0 (stor41 hs115 hv103 (i:=((who % (tracesP (1 + (n % 6)) runs).length) * 1)) (xs':=splice cs13 ((who % (tracesP (1 + (n % 6)) runs).length) * 1) [.slice A112 ((((e22.take (at_ % n28)) ++ [e38,e38]) ++ (e22.drop ((at_ % n28) + 1))).length) c113]) (.tmp rfl rfl) (u:=.slice A112 ((((e22.take (at_ % n28)) ++ [e38,e38]) ++ (e22.drop ((at_ % n28) + 1))).length) c113) (.tmp rfl rfl) rfl (by omega) one1 rfl) ?_
 rintro w105 hs106
 have hk108:=Kn.rows_set (d:=(kSl kEvent).toKn) (Kn.rows_mono hk14 hle114) (i:=(who % (tracesP (1 + (n % 6)) runs).length)) (by omega) hr109
 have ok107:=ok11.splice (i:=(who % (tracesP (1 + (n % 6)) runs).length) * 1) (vs:=[.slice A112 ((((e22.take (at_ % n28)) ++ [e38,e38]) ++ (e22.drop ((at_ % n28) + 1))).length) c113]) (by simpa using hl117)
 have hn118:((tracesP (1 + (n % 6)) runs).set (who % (tracesP (1 + (n % 6)) runs).length) (((e22.take (at_ % n28)) ++ [e38,e38]) ++ (e22.drop ((at_ % n28) + 1)))).length = (tracesP (1 + (n % 6)) runs).length:=List.length_set
 have ok119:RowOk (kSl kEvent).sz v10 ((tracesP (1 + (n % 6)) runs).set (who % (tracesP (1 + (n % 6)) runs).length) (((e22.take (at_ % n28)) ++ [e38,e38]) ++ (e22.drop ((at_ % n28) + 1)))).length (splice cs13 ((who % (tracesP (1 + (n % 6)) runs).length) * 1) [.slice A112 ((((e22.take (at_ % n28)) ++ [e38,e38]) ++ (e22.drop ((at_ % n28) + 1))).length) c113]):=by rw [hn118]; exact ok107
 have hs120:St H111 w105 (row 41 1 v10 (((tracesP (1 + (n % 6)) runs).set (who % (tracesP (1 + (n % 6)) runs).length) (((e22.take (at_ % n28)) ++ [e38,e38]) ++ (e22.drop ((at_ % n28) + 1)))).length) (splice cs13 ((who % (tracesP (1 + (n % 6)) runs).length) * 1) [.slice A112 ((((e22.take (at_ % n28)) ++ [e38,e38]) ++ (e22.drop ((at_ % n28) + 1))).length) c113])::obj g77 49 [.int .u8 ((e38.Kind:Nat):Int),.int .u64 ((e38.View.ID.N:Nat):Int),.int .i64 e38.View.ID.P,.int .u16 ((e38.View.Set:Nat):Int),.int .i64 e38.From,.slice A53 n54 c55,.int .u8 ((e38.Kind:Nat):Int),.int .u64 ((e38.View.ID.N:Nat):Int),.int .i64 e38.View.ID.P,.int .u16 ((e38.View.Set:Nat):Int),.int .i64 e38.From,.slice A53 n54 c55]::obj g57 49 [.int .u8 ((e38.Kind:Nat):Int),.int .u64 ((e38.View.ID.N:Nat):Int),.int .i64 e38.View.ID.P,.int .u16 ((e38.View.Set:Nat):Int),.int .i64 e38.From,.slice A53 n54 c55]::L):=by rw [hn118]; exact hs106
 refine c_nil (n_then (c_seq (c_region (st (v:=v10) (x_move (.tmp rfl rfl)) ?_))))
 have:((tracesP (1 + (n % 6)) runs).set (who % (tracesP (1 + (n % 6)) runs).length) (((e22.take (at_ % n28)) ++ [e38,e38]) ++ (e22.drop ((at_ % n28) + 1)))).length * 24 ≤ 140737488351232:=by omega
 obtain ⟨H121,A122,c123,hle124,hs125,rfl,sp126⟩:=hs120.freezeSl (d:=(kSl kEvent)) ok119 hk108 this
 have:=sp126.len; have:=sp126.le
 refine st_c cb15 .func (evs1 (.tmp rfl rfl)) (judge_spec hs125 ((tracesP (1 + (n % 6)) runs).set (who % (tracesP (1 + (n % 6)) runs).length) (((e22.take (at_ % n28)) ++ [e38,e38]) ++ (e22.drop ((at_ % n28) + 1)))) sp126 (by omega) (set_small traces_small (by simp only [List.length_append,List.length_take,List.length_drop,List.length_cons,List.length_nil]; omega)) (htab.mono ((hle9.trans hle114).trans hle124))) ?_
 rintro e w127 ⟨H129,hle130,rfl,hs128⟩
 refine ⟨_,rfl,?_⟩
 refine st (v:=.slice A122 (((tracesP (1 + (n % 6)) runs).set (who % (tracesP (1 + (n % 6)) runs).length) (((e22.take (at_ % n28)) ++ [e38,e38]) ++ (e22.drop ((at_ % n28) + 1)))).length) c123) (x_move (.tmp rfl rfl)) ?_
 refine st_c cb16 .func (evs1 (.tmp rfl rfl)) (rviews_spec hs128 ((tracesP (1 + (n % 6)) runs).set (who % (tracesP (1 + (n % 6)) runs).length) (((e22.take (at_ % n28)) ++ [e38,e38]) ++ (e22.drop ((at_ % n28) + 1)))) (sp126.mono hle130) ) ?_
 rintro e w131 ⟨H133,hle134,rfl,hs132⟩
 refine ⟨_,rfl,?_⟩
 refine st (v:=.bool ((judgeV ((tracesP (1 + (n % 6)) runs).set (who % (tracesP (1 + (n % 6)) runs).length) (((e22.take (at_ % n28)) ++ [e38,e38]) ++ (e22.drop ((at_ % n28) + 1))))) == (refV ((tracesP (1 + (n % 6)) runs).set (who % (tracesP (1 + (n % 6)) runs).length) (((e22.take (at_ % n28)) ++ [e38,e38]) ++ (e22.drop ((at_ % n28) + 1))))))) (x_eqlB Tryd.underlying4 (.tmp rfl rfl) (.tmp rfl rfl)) ?_
 refine st (v:=.bool ((judgeV ((tracesP (1 + (n % 6)) runs).set (who % (tracesP (1 + (n % 6)) runs).length) (((e22.take (at_ % n28)) ++ [e38,e38]) ++ (e22.drop ((at_ % n28) + 1))))) == (refV ((tracesP (1 + (n % 6)) runs).set (who % (tracesP (1 + (n % 6)) runs).length) (((e22.take (at_ % n28)) ++ [e38,e38]) ++ (e22.drop ((at_ % n28) + 1))))))) (x_assign (.tmp rfl rfl)) ?_
 refine c_nil (n_then (c_ret (leave_ret (res_one (v:=.bool ((judgeV ((tracesP (1 + (n % 6)) runs).set (who % (tracesP (1 + (n % 6)) runs).length) (((e22.take (at_ % n28)) ++ [e38,e38]) ++ (e22.drop ((at_ % n28) + 1))))) == (refV ((tracesP (1 + (n % 6)) runs).set (who % (tracesP (1 + (n % 6)) runs).length) (((e22.take (at_ % n28)) ++ [e38,e38]) ++ (e22.drop ((at_ % n28) + 1))))))) rfl (.mk rfl rfl)) ?_)))
 have hyes:((judgeV ((tracesP (1 + (n % 6)) runs).set (who % (tracesP (1 + (n % 6)) runs).length) (((e22.take (at_ % n28)) ++ [e38,e38]) ++ (e22.drop ((at_ % n28) + 1))))) == (refV ((tracesP (1 + (n % 6)) runs).set (who % (tracesP (1 + (n % 6)) runs).length) (((e22.take (at_ % n28)) ++ [e38,e38]) ++ (e22.drop ((at_ % n28) + 1)))))) = true:=(by rw [judge_ref]; simp)
 rw [hyes]
 exact ⟨rfl,(hs132.drop.drop.weaken ((((hle9.trans hle114).trans hle124).trans hle130).trans hle134))⟩
 have hp76:¬ (((((how % 6):Nat):Int):Int) = 1):=of_decide_eq_false hc76
 refine c_cond_f (t:=false) (.tmp rfl (cVb hc76)) rfl ?_
 refine c_seq (c_region (st (v:=.bool (decide (((((how % 6):Nat):Int):Int) = 2))) (x_eql (k:=.u8) (a:=(((how % 6):Nat):Int)) (b:=2) (.tmp rfl rfl) .const) ?_))
 refine st (v:=.bool (decide (((((how % 6):Nat):Int):Int) = 2))) (x_assign (.tmp rfl rfl)) ?_
 refine c_nil (n_then ?_)
 rcases Bool.eq_false_or_eq_true (decide (((((how % 6):Nat):Int):Int) = 2)) with hc135 | hc135
 have hp135:((((how % 6):Nat):Int):Int) = 2:=of_decide_eq_true hc135
 refine c_cond_t (t:=true) (.tmp rfl (cVb hc135)) rfl ?_
 refine c_seq (c_region (st (v:=.pointer (some ⟨g57,0 + 4,none⟩)) (fa49_2 (.tmp rfl rfl)) ?_))
 refine st (v:=.int .i64 e38.From) (ld3 (.tmp rfl rfl) (hs74.cell 1 rfl (0 + 4) rfl)) ?_
 refine st (v:=.int .i64 (e38.From + 1)) (x_add (k:=.i64) (a:=e38.From) (b:=1) (.tmp rfl rfl) .const (w64 (by omega) (by omega))) ?_
 refine st (v:=.pointer (some ⟨g57,0 + 4,none⟩)) (fa49_2 (.tmp rfl rfl)) ?_
 have hs136:=hs74.p1
 refine st_m0 (sto3 (cs':=[.int .u8 ((e38.Kind:Nat):Int),.int .u64 ((e38.View.ID.N:Nat):Int),.int .i64 e38.View.ID.P,.int .u16 ((e38.View.Set:Nat):Int),.int .i64 (e38.From + 1),.slice A53 n54 c55]) (i:=0 + 4) hs136 (v:=.int .i64 (e38.From + 1)) (.tmp rfl rfl) (.tmp rfl rfl) rfl (Nat.le_of_ble_eq_true rfl) one1 rfl) ?_
 rintro w137 hs139
 refine c_nil (n_then (c_region (st (v:=v69) (x_move (.tmp rfl rfl)) ?_)))
 refine st (v:=.agg #[.int .u8 ((e38.Kind:Nat):Int),.int .u64 ((e38.View.ID.N:Nat):Int),.int .i64 e38.View.ID.P,.int .u16 ((e38.View.Set:Nat):Int),.int .i64 (e38.From + 1),.slice A53 n54 c55]) (ld49 (cs:=[.int .u8 ((e38.Kind:Nat):Int),.int .u64 ((e38.View.ID.N:Nat):Int),.int .i64 e38.View.ID.P,.int .u16 ((e38.View.Set:Nat):Int),.int .i64 (e38.From + 1),.slice A53 n54 c55]) (.tmp rfl rfl) (hs139.at_ 0 rfl (0) rfl) rfl) ?_
 refine st_m (m_lit (n:=1) (ps:=[(0,.agg #[.int .u8 ((e38.Kind:Nat):Int),.int .u64 ((e38.View.ID.N:Nat):Int),.int .i64 e38.View.ID.P,.int .u16 ((e38.View.Set:Nat):Int),.int .i64 (e38.From + 1),.slice A53 n54 c55])]) (cs:=[.int .u8 ((e38.Kind:Nat):Int),.int .u64 ((e38.View.ID.N:Nat):Int),.int .i64 e38.View.ID.P,.int .u16 ((e38.View.Set:Nat):Int),.int .i64 (e38.From + 1),.slice A53 n54 c55]) Tryd.underlying41 inf49 (.cons (.tmp rfl rfl) Evp.nil) (by decide) (by decide) rfl rfl hs139) ?_
 rintro _ w141 ⟨g140,rfl,hs143⟩
 have hs144:=hs143.p2
 have hr152:kEvent.rep H8 (GEvent.mk e38.Kind e38.View (e38.From + 1) e38.M) [.int .u8 ((e38.Kind:Nat):Int),.int .u64 ((e38.View.ID.N:Nat):Int),.int .i64 e38.View.ID.P,.int .u16 ((e38.View.Set:Nat):Int),.int .i64 (e38.From + 1),.slice A53 n54 c55]:=⟨A53,n54,c55,rfl,b46,b47,⟨b48,b49⟩,b50,(show IB (e38.From + 1) from ⟨by omega,by omega⟩),hy56⟩
 refine st_m (m_appK (d:=kEvent) (ys:=[(GEvent.mk e38.Kind e38.View (e38.From + 1) e38.M)]) (news:=[.int .u8 ((e38.Kind:Nat):Int),.int .u64 ((e38.View.ID.N:Nat):Int),.int .i64 e38.View.ID.P,.int .u16 ((e38.View.Set:Nat):Int),.int .i64 (e38.From + 1),.slice A53 n54 c55]) Tryd.underlying41 inf49 rfl hs144 ok72 hk73 (.tmp rfl rfl) (.tmp rfl rfl) (Kn.rows_one hr152) rfl (hs144.at_ 1 rfl 0 rfl) (by have:([(GEvent.mk e38.Kind e38.View (e38.From + 1) e38.M)]:List GEvent).length = 1:=rfl; omega) (by decide)) ?_
 rintro v145 w146 ⟨cs147,ok148,hk149,hs150⟩
 have hn151:((e22.take (at_ % n28)) ++ [(GEvent.mk e38.Kind e38.View (e38.From + 1) e38.M)]).length = (e22.take (at_ % n28)).length + 1:=by simp
 refine st (v:=v145) (x_assign (.tmp rfl rfl)) ?_
 refine c_nil (n_block (n_then (c_seq (c_region (st (v:=v10) (x_move (.tmp rfl rfl)) ?_)))))
 refine st (v:=.int .i64 (((who % (tracesP (1 + (n % 6)) runs).length):Nat):Int)) (x_move (.tmp rfl rfl)) ?_
 refine st (v:=v145) (x_move (.tmp rfl rfl)) ?_
 refine st (v:=v10) (x_move (.tmp rfl rfl)) ?_
 refine st (v:=.int .i64 (((who % (tracesP (1 + (n % 6)) runs).length):Nat):Int)) (x_move (.tmp rfl rfl)) ?_
 obtain ⟨g153,c154,hv155⟩:=ok11.pos (by omega)
 refine st (v:=.pointer (some ⟨g153,((who % (tracesP (1 + (n % 6)) runs).length) * 1),none⟩)) (ixo36 (.tmp rfl hv155) rfl (i:=(((who % (tracesP (1 + (n % 6)) runs).length):Nat):Int)) (.tmp rfl rfl) (by omega) (by omega) (by omega)) ?_
 refine st (v:=.slice A27 n28 c29) (ld41 (.tmp rfl rfl) ((hs150.rowAt 3 rfl hv155 ((who % (tracesP (1 + (n % 6)) runs).length) * 1) hsub26).cell 0 rfl)) ?_
 refine st (v:=.int .i64 (((at_ % n28):Nat):Int)) (x_move (.tmp rfl rfl)) ?_
 refine st (v:=.int .i64 ((((at_ % n28) + 1):Nat):Int)) (x_add (k:=.i64) (a:=(((at_ % n28):Nat):Int)) (b:=1) (.tmp rfl rfl) .const ((w64 (by omega) (by omega)).trans (by omega))) ?_
 refine st (v:=.slice (cutA A27 c29 ((at_ % n28) + 1) 6) (n28 - ((at_ % n28) + 1)) (c29 - ((at_ % n28) + 1))) (sl_l (d:=kEvent) Tryd.underlying41 inf49 (a:=((((at_ % n28) + 1):Nat):Int)) (.tmp rfl rfl) (.tmp rfl rfl) (by omega) (by omega) (by omega)) ?_
 refine st_m (m_appSl (d:=kEvent) (ys:=(e22.drop ((at_ % n28) + 1))) Tryd.underlying41 inf49 rfl hs150 ok148 hk149 (.tmp rfl rfl) (.tmp rfl rfl) (hl30.drop (k:=((at_ % n28) + 1)) (by omega)) (by omega) (by decide)) ?_
 rintro v156 w157 ⟨cs158,ok159,hk160,hs161⟩
 have hn162:(((e22.take (at_ % n28)) ++ [(GEvent.mk e38.Kind e38.View (e38.From + 1) e38.M)]) ++ (e22.drop ((at_ % n28) + 1))).length = ((e22.take (at_ % n28)) ++ [(GEvent.mk e38.Kind e38.View (e38.From + 1) e38.M)]).length + (n28 - ((at_ % n28) + 1)):=by rw [List.length_append,(hl30.drop (k:=((at_ % n28) + 1)) (by omega)).len]
 obtain ⟨g163,c164,hv165⟩:=ok11.pos (by omega)
 refine st (v:=.pointer (some ⟨g163,((who % (tracesP (1 + (n % 6)) runs).length) * 1),none⟩)) (ixo36 (.tmp rfl hv165) rfl (i:=(((who % (tracesP (1 + (n % 6)) runs).length):Nat):Int)) (.tmp rfl rfl) (by omega) (by omega) (by omega)) ?_
 have hs166:=hs161.p3
 have hs172:=hs166.p1
 have:(((e22.take (at_ % n28)) ++ [(GEvent.mk e38.Kind e38.View (e38.From + 1) e38.M)]) ++ (e22.drop ((at_ % n28) + 1))).length * 64 ≤ 140737488351232:=by omega
 obtain ⟨H173,A174,c175,hle176,hs177,rfl,sp178⟩:=hs172.freezeSl (d:=kEvent) ok159 hk160 this
 have:=sp178.len; have:=sp178.le
 have hl179:(who % (tracesP (1 + (n % 6)) runs).length) * 1 + 1 ≤ cs13.length:=by have h1:=((Kn.rows_mono hk14 hle176)).1; have h2:(kSl kEvent).sz = 1:=rfl; rw [h2] at h1; omega
 have hr171:(kSl kEvent).rep H173 (((e22.take (at_ % n28)) ++ [(GEvent.mk e38.Kind e38.View (e38.From + 1) e38.M)]) ++ (e22.drop ((at_ % n28) + 1))) [.slice A174 ((((e22.take (at_ % n28)) ++ [(GEvent.mk e38.Kind e38.View (e38.From + 1) e38.M)]) ++ (e22.drop ((at_ % n28) + 1))).length) c175]:=⟨A174,((((e22.take (at_ % n28)) ++ [(GEvent.mk e38.Kind e38.View (e38.From + 1) e38.M)]) ++ (e22.drop ((at_ % n28) + 1))).length),c175,rfl,sp178⟩
 refine st_m0 (stor41 hs177 hv165 (i:=((who % (tracesP (1 + (n % 6)) runs).length) * 1)) (xs':=splice cs13 ((who % (tracesP (1 + (n % 6)) runs).length) * 1) [.slice A174 ((((e22.take (at_ % n28)) ++ [(GEvent.mk e38.Kind e38.View (e38.From + 1) e38.M)]) ++ (e22.drop ((at_ % n28) + 1))).length) c175]) (.tmp rfl rfl) (u:=.slice A174 ((((e22.take (at_ % n28)) ++ [(GEvent.mk e38.Kind e38.View (e38.From + 1) e38.M)]) ++ (e22.drop ((at_ % n28) + 1))).length) c175) (.tmp rfl rfl) rfl (by omega) one1 rfl) ?_
 rintro w167 hs168
 have hk170:=Kn.rows_set (d:=(kSl kEvent).toKn) (Kn.rows_mono hk14 hle176) (i:=(who % (tracesP (1 + (n % 6)) runs).length)) (by omega) hr171
 have ok169:=ok11.splice (i:=(who % (tracesP (1 + (n % 6)) runs).length) * 1) (vs:=[.slice A174 ((((e22.take (at_ % n28)) ++ [(GEvent.mk e38.Kind e38.View (e38.From + 1) e38.M)]) ++ (e22.drop ((at_ % n28) + 1))).length) c175]) (by simpa using hl179)
 have hn180:((tracesP (1 + (n % 6)) runs).set (who % (tracesP (1 + (n % 6)) runs).length) (((e22.take (at_ % n28)) ++ [(GEvent.mk e38.Kind e38.View (e38.From + 1) e38.M)]) ++ (e22.drop ((at_ % n28) + 1)))).length = (tracesP (1 + (n % 6)) runs).length:=List.length_set
 have ok181:RowOk (kSl kEvent).sz v10 ((tracesP (1 + (n % 6)) runs).set (who % (tracesP (1 + (n % 6)) runs).length) (((e22.take (at_ % n28)) ++ [(GEvent.mk e38.Kind e38.View (e38.From + 1) e38.M)]) ++ (e22.drop ((at_ % n28) + 1)))).length (splice cs13 ((who % (tracesP (1 + (n % 6)) runs).length) * 1) [.slice A174 ((((e22.take (at_ % n28)) ++ [(GEvent.mk e38.Kind e38.View (e38.From + 1) e38.M)]) ++ (e22.drop ((at_ % n28) + 1))).length) c175]):=by rw [hn180]; exact ok169
 have hs182:St H173 w167 (row 41 1 v10 (((tracesP (1 + (n % 6)) runs).set (who % (tracesP (1 + (n % 6)) runs).length) (((e22.take (at_ % n28)) ++ [(GEvent.mk e38.Kind e38.View (e38.From + 1) e38.M)]) ++ (e22.drop ((at_ % n28) + 1)))).length) (splice cs13 ((who % (tracesP (1 + (n % 6)) runs).length) * 1) [.slice A174 ((((e22.take (at_ % n28)) ++ [(GEvent.mk e38.Kind e38.View (e38.From + 1) e38.M)]) ++ (e22.drop ((at_ % n28) + 1))).length) c175])::obj g140 49 [.int .u8 ((e38.Kind:Nat):Int),.int .u64 ((e38.View.ID.N:Nat):Int),.int .i64 e38.View.ID.P,.int .u16 ((e38.View.Set:Nat):Int),.int .i64 (e38.From + 1),.slice A53 n54 c55]::obj g57 49 [.int .u8 ((e38.Kind:Nat):Int),.int .u64 ((e38.View.ID.N:Nat):Int),.int .i64 e38.View.ID.P,.int .u16 ((e38.View.Set:Nat):Int),.int .i64 (e38.From + 1),.slice A53 n54 c55]::L):=by rw [hn180]; exact hs168
 refine c_nil (n_then (c_seq (c_region (st (v:=v10) (x_move (.tmp rfl rfl)) ?_))))
 have:((tracesP (1 + (n % 6)) runs).set (who % (tracesP (1 + (n % 6)) runs).length) (((e22.take (at_ % n28)) ++ [(GEvent.mk e38.Kind e38.View (e38.From + 1) e38.M)]) ++ (e22.drop ((at_ % n28) + 1)))).length * 24 ≤ 140737488351232:=by omega
 obtain ⟨H183,A184,c185,hle186,hs187,rfl,sp188⟩:=hs182.freezeSl (d:=(kSl kEvent)) ok181 hk170 this
 have:=sp188.len; have:=sp188.le
 refine st_c cb15 .func (evs1 (.tmp rfl rfl)) (judge_spec hs187 ((tracesP (1 + (n % 6)) runs).set (who % (tracesP (1 + (n % 6)) runs).length) (((e22.take (at_ % n28)) ++ [(GEvent.mk e38.Kind e38.View (e38.From + 1) e38.M)]) ++ (e22.drop ((at_ % n28) + 1)))) sp188 (by omega) (set_small traces_small (by simp only [List.length_append,List.length_take,List.length_drop,List.length_cons,List.length_nil]; omega)) (htab.mono ((hle9.trans hle176).trans hle186))) ?_
 rintro e w189 ⟨H191,hle192,rfl,hs190⟩
 refine ⟨_,rfl,?_⟩
 refine st (v:=.slice A184 (((tracesP (1 + (n % 6)) runs).set (who % (tracesP (1 + (n % 6)) runs).length) (((e22.take (at_ % n28)) ++ [(GEvent.mk e38.Kind e38.View (e38.From + 1) e38.M)]) ++ (e22.drop ((at_ % n28) + 1)))).length) c185) (x_move (.tmp rfl rfl)) ?_
 refine st_c cb16 .func (evs1 (.tmp rfl rfl)) (rviews_spec hs190 ((tracesP (1 + (n % 6)) runs).set (who % (tracesP (1 + (n % 6)) runs).length) (((e22.take (at_ % n28)) ++ [(GEvent.mk e38.Kind e38.View (e38.From + 1) e38.M)]) ++ (e22.drop ((at_ % n28) + 1)))) (sp188.mono hle192) ) ?_
 rintro e w193 ⟨H195,hle196,rfl,hs194⟩
 refine ⟨_,rfl,?_⟩
 refine st (v:=.bool ((judgeV ((tracesP (1 + (n % 6)) runs).set (who % (tracesP (1 + (n % 6)) runs).length) (((e22.take (at_ % n28)) ++ [(GEvent.mk e38.Kind e38.View (e38.From + 1) e38.M)]) ++ (e22.drop ((at_ % n28) + 1))))) == (refV ((tracesP (1 + (n % 6)) runs).set (who % (tracesP (1 + (n % 6)) runs).length) (((e22.take (at_ % n28)) ++ [(GEvent.mk e38.Kind e38.View (e38.From + 1) e38.M)]) ++ (e22.drop ((at_ % n28) + 1))))))) (x_eqlB Tryd.underlying4 (.tmp rfl rfl) (.tmp rfl rfl)) ?_
 refine st (v:=.bool ((judgeV ((tracesP (1 + (n % 6)) runs).set (who % (tracesP (1 + (n % 6)) runs).length) (((e22.take (at_ % n28)) ++ [(GEvent.mk e38.Kind e38.View (e38.From + 1) e38.M)]) ++ (e22.drop ((at_ % n28) + 1))))) == (refV ((tracesP (1 + (n % 6)) runs).set (who % (tracesP (1 + (n % 6)) runs).length) (((e22.take (at_ % n28)) ++ [(GEvent.mk e38.Kind e38.View (e38.From + 1) e38.M)]) ++ (e22.drop ((at_ % n28) + 1))))))) (x_assign (.tmp rfl rfl)) ?_
 refine c_nil (n_then (c_ret (leave_ret (res_one (v:=.bool ((judgeV ((tracesP (1 + (n % 6)) runs).set (who % (tracesP (1 + (n % 6)) runs).length) (((e22.take (at_ % n28)) ++ [(GEvent.mk e38.Kind e38.View (e38.From + 1) e38.M)]) ++ (e22.drop ((at_ % n28) + 1))))) == (refV ((tracesP (1 + (n % 6)) runs).set (who % (tracesP (1 + (n % 6)) runs).length) (((e22.take (at_ % n28)) ++ [(GEvent.mk e38.Kind e38.View (e38.From + 1) e38.M)]) ++ (e22.drop ((at_ % n28) + 1))))))) rfl (.mk rfl rfl)) ?_)))
 have hyes:((judgeV ((tracesP (1 + (n % 6)) runs).set (who % (tracesP (1 + (n % 6)) runs).length) (((e22.take (at_ % n28)) ++ [(GEvent.mk e38.Kind e38.View (e38.From + 1) e38.M)]) ++ (e22.drop ((at_ % n28) + 1))))) == (refV ((tracesP (1 + (n % 6)) runs).set (who % (tracesP (1 + (n % 6)) runs).length) (((e22.take (at_ % n28)) ++ [(GEvent.mk e38.Kind e38.View (e38.From + 1) e38.M)]) ++ (e22.drop ((at_ % n28) + 1)))))) = true:=(by rw [judge_ref]; simp)
 rw [hyes]
 exact ⟨rfl,(hs194.drop.drop.weaken ((((hle9.trans hle176).trans hle186).trans hle192).trans hle196))⟩
 have hp135:¬ (((((how % 6):Nat):Int):Int) = 2):=of_decide_eq_false hc135
 refine c_cond_f (t:=false) (.tmp rfl (cVb hc135)) rfl ?_
 refine c_seq (c_region (st (v:=.bool (decide (((((how % 6):Nat):Int):Int) = 3))) (x_eql (k:=.u8) (a:=(((how % 6):Nat):Int)) (b:=3) (.tmp rfl rfl) .const) ?_))
 refine st (v:=.bool (decide (((((how % 6):Nat):Int):Int) = 3))) (x_assign (.tmp rfl rfl)) ?_
 refine c_nil (n_then ?_)
 rcases Bool.eq_false_or_eq_true (decide (((((how % 6):Nat):Int):Int) = 3)) with hc197 | hc197
 have hp197:((((how % 6):Nat):Int):Int) = 3:=of_decide_eq_true hc197
 refine c_cond_t (t:=true) (.tmp rfl (cVb hc197)) rfl ?_
 refine c_seq (c_region (st (v:=.pointer (some ⟨g57,0 + 0,none⟩)) (fa49_0 (.tmp rfl rfl)) ?_))
 refine st (v:=.int .u8 ((e38.Kind:Nat):Int)) (ld5 (.tmp rfl rfl) (hs74.cell 1 rfl (0 + 0) rfl)) ?_
 refine st (v:=.int .u8 (((e38.Kind % 4):Nat):Int)) (x_remN (k:=.u8) (m:=e38.Kind) (n:=4) (.tmp rfl rfl) .const (by omega)) ?_
 have hb198:((e38.Kind % 4) + 1) < 256:=by omega
 refine st (v:=.int .u8 ((((e38.Kind % 4) + 1):Nat):Int)) (x_add (k:=.u8) (a:=(((e38.Kind % 4):Nat):Int)) (b:=1) (.tmp rfl rfl) .const (wU rfl (by omega) hb198)) ?_
 refine st (v:=.pointer (some ⟨g57,0 + 0,none⟩)) (fa49_0 (.tmp rfl rfl)) ?_
 have hs199:=hs74.p1
 refine st_m0 (sto5 (cs':=[.int .u8 ((((e38.Kind % 4) + 1):Nat):Int),.int .u64 ((e38.View.ID.N:Nat):Int),.int .i64 e38.View.ID.P,.int .u16 ((e38.View.Set:Nat):Int),.int .i64 e38.From,.slice A53 n54 c55]) (i:=0 + 0) hs199 (v:=.int .u8 ((((e38.Kind % 4) + 1):Nat):Int)) (.tmp rfl rfl) (.tmp rfl rfl) rfl (Nat.le_of_ble_eq_true rfl) one1 rfl) ?_
 rintro w200 hs202
 refine c_nil (n_then (c_region (st (v:=v69) (x_move (.tmp rfl rfl)) ?_)))
 refine st (v:=.agg #[.int .u8 ((((e38.Kind % 4) + 1):Nat):Int),.int .u64 ((e38.View.ID.N:Nat):Int),.int .i64 e38.View.ID.P,.int .u16 ((e38.View.Set:Nat):Int),.int .i64 e38.From,.slice A53 n54 c55]) (ld49 (cs:=[.int .u8 ((((e38.Kind % 4) + 1):Nat):Int),.int .u64 ((e38.View.ID.N:Nat):Int),.int .i64 e38.View.ID.P,.int .u16 ((e38.View.Set:Nat):Int),.int .i64 e38.From,.slice A53 n54 c55]) (.tmp rfl rfl) (hs202.at_ 0 rfl (0) rfl) rfl) ?_
 refine st_m (m_lit (n:=1) (ps:=[(0,.agg #[.int .u8 ((((e38.Kind % 4) + 1):Nat):Int),.int .u64 ((e38.View.ID.N:Nat):Int),.int .i64 e38.View.ID.P,.int .u16 ((e38.View.Set:Nat):Int),.int .i64 e38.From,.slice A53 n54 c55])]) (cs:=[.int .u8 ((((e38.Kind % 4) + 1):Nat):Int),.int .u64 ((e38.View.ID.N:Nat):Int),.int .i64 e38.View.ID.P,.int .u16 ((e38.View.Set:Nat):Int),.int .i64 e38.From,.slice A53 n54 c55]) Tryd.underlying41 inf49 (.cons (.tmp rfl rfl) Evp.nil) (by decide) (by decide) rfl rfl hs202) ?_
 rintro _ w204 ⟨g203,rfl,hs206⟩
 have hs207:=hs206.p2
 have hr215:kEvent.rep H8 (GEvent.mk ((e38.Kind % 4) + 1) e38.View e38.From e38.M) [.int .u8 ((((e38.Kind % 4) + 1):Nat):Int),.int .u64 ((e38.View.ID.N:Nat):Int),.int .i64 e38.View.ID.P,.int .u16 ((e38.View.Set:Nat):Int),.int .i64 e38.From,.slice A53 n54 c55]:=⟨A53,n54,c55,rfl,hb198,b47,⟨b48,b49⟩,b50,⟨b51,b52⟩,hy56⟩
 refine st_m (m_appK (d:=kEvent) (ys:=[(GEvent.mk ((e38.Kind % 4) + 1) e38.View e38.From e38.M)]) (news:=[.int .u8 ((((e38.Kind % 4) + 1):Nat):Int),.int .u64 ((e38.View.ID.N:Nat):Int),.int .i64 e38.View.ID.P,.int .u16 ((e38.View.Set:Nat):Int),.int .i64 e38.From,.slice A53 n54 c55]) Tryd.underlying41 inf49 rfl hs207 ok72 hk73 (.tmp rfl rfl) (.tmp rfl rfl) (Kn.rows_one hr215) rfl (hs207.at_ 1 rfl 0 rfl) (by have:([(GEvent.mk ((e38.Kind % 4) + 1) e38.View e38.From e38.M)]:List GEvent).length = 1:=rfl; omega) (by decide)) ?_
 rintro v208 w209 ⟨cs210,ok211,hk212,hs213⟩
 have hn214:((e22.take (at_ % n28)) ++ [(GEvent.mk ((e38.Kind % 4) + 1) e38.View e38.From e38.M)]).length = (e22.take (at_ % n28)).length + 1:=by simp
 refine st (v:=v208) (x_assign (.tmp rfl rfl)) ?_
 refine c_nil (n_block (n_then (c_seq (c_region (st (v:=v10) (x_move (.tmp rfl rfl)) ?_)))))
 refine st (v:=.int .i64 (((who % (tracesP (1 + (n % 6)) runs).length):Nat):Int)) (x_move (.tmp rfl rfl)) ?_
 refine st (v:=v208) (x_move (.tmp rfl rfl)) ?_
 refine st (v:=v10) (x_move (.tmp rfl rfl)) ?_
 refine st (v:=.int .i64 (((who % (tracesP (1 + (n % 6)) runs).length):Nat):Int)) (x_move (.tmp rfl rfl)) ?_
 obtain ⟨g216,c217,hv218⟩:=ok11.pos (by omega)
 refine st (v:=.pointer (some ⟨g216,((who % (tracesP (1 + (n % 6)) runs).length) * 1),none⟩)) (ixo36 (.tmp rfl hv218) rfl (i:=(((who % (tracesP (1 + (n % 6)) runs).length):Nat):Int)) (.tmp rfl rfl) (by omega) (by omega) (by omega)) ?_
 refine st (v:=.slice A27 n28 c29) (ld41 (.tmp rfl rfl) ((hs213.rowAt 3 rfl hv218 ((who % (tracesP (1 + (n % 6)) runs).length) * 1) hsub26).cell 0 rfl)) ?_
 refine st (v:=.int .i64 (((at_ % n28):Nat):Int)) (x_move (.tmp rfl rfl)) ?_
 refine st (v:=.int .i64 ((((at_ % n28) + 1):Nat):Int)) (x_add (k:=.i64) (a:=(((at_ % n28):Nat):Int)) (b:=1) (.tmp rfl rfl) .const ((w64 (by omega) (by omega)).trans (by omega))) ?_
 refine st (v:=.slice (cutA A27 c29 ((at_ % n28) + 1) 6) (n28 - ((at_ % n28) + 1)) (c29 - ((at_ % n28) + 1))) (sl_l (d:=kEvent) Tryd.underlying41 inf49 (a:=((((at_ % n28) + 1):Nat):Int)) (.tmp rfl rfl) (.tmp rfl rfl) (by omega) (by omega) (by omega)) ?_
 refine st_m (m_appSl (d:=kEvent) (ys:=(e22.drop ((at_ % n28) + 1))) Tryd.underlying41 inf49 rfl hs213 ok211 hk212 (.tmp rfl rfl) (.tmp rfl rfl) (hl30.drop (k:=((at_ % n28) + 1)) (by omega)) (by omega) (by decide)) ?_
 rintro v219 w220 ⟨cs221,ok222,hk223,hs224⟩
 have hn225:(((e22.take (at_ % n28)) ++ [(GEvent.mk ((e38.Kind % 4) + 1) e38.View e38.From e38.M)]) ++ (e22.drop ((at_ % n28) + 1))).length = ((e22.take (at_ % n28)) ++ [(GEvent.mk ((e38.Kind % 4) + 1) e38.View e38.From e38.M)]).length + (n28 - ((at_ % n28) + 1)):=by rw [List.length_append,(hl30.drop (k:=((at_ % n28) + 1)) (by omega)).len]
 obtain ⟨g226,c227,hv228⟩:=ok11.pos (by omega)
 refine st (v:=.pointer (some ⟨g226,((who % (tracesP (1 + (n % 6)) runs).length) * 1),none⟩)) (ixo36 (.tmp rfl hv228) rfl (i:=(((who % (tracesP (1 + (n % 6)) runs).length):Nat):Int)) (.tmp rfl rfl) (by omega) (by omega) (by omega)) ?_
 have hs229:=hs224.p3
 have hs235:=hs229.p1
 have:(((e22.take (at_ % n28)) ++ [(GEvent.mk ((e38.Kind % 4) + 1) e38.View e38.From e38.M)]) ++ (e22.drop ((at_ % n28) + 1))).length * 64 ≤ 140737488351232:=by omega
 obtain ⟨H236,A237,c238,hle239,hs240,rfl,sp241⟩:=hs235.freezeSl (d:=kEvent) ok222 hk223 this
 have:=sp241.len; have:=sp241.le
 have hl242:(who % (tracesP (1 + (n % 6)) runs).length) * 1 + 1 ≤ cs13.length:=by have h1:=((Kn.rows_mono hk14 hle239)).1; have h2:(kSl kEvent).sz = 1:=rfl; rw [h2] at h1; omega
 have hr234:(kSl kEvent).rep H236 (((e22.take (at_ % n28)) ++ [(GEvent.mk ((e38.Kind % 4) + 1) e38.View e38.From e38.M)]) ++ (e22.drop ((at_ % n28) + 1))) [.slice A237 ((((e22.take (at_ % n28)) ++ [(GEvent.mk ((e38.Kind % 4) + 1) e38.View e38.From e38.M)]) ++ (e22.drop ((at_ % n28) + 1))).length) c238]:=⟨A237,((((e22.take (at_ % n28)) ++ [(GEvent.mk ((e38.Kind % 4) + 1) e38.View e38.From e38.M)]) ++ (e22.drop ((at_ % n28) + 1))).length),c238,rfl,sp241⟩
 refine st_m0 (stor41 hs240 hv228 (i:=((who % (tracesP (1 + (n % 6)) runs).length) * 1)) (xs':=splice cs13 ((who % (tracesP (1 + (n % 6)) runs).length) * 1) [.slice A237 ((((e22.take (at_ % n28)) ++ [(GEvent.mk ((e38.Kind % 4) + 1) e38.View e38.From e38.M)]) ++ (e22.drop ((at_ % n28) + 1))).length) c238]) (.tmp rfl rfl) (u:=.slice A237 ((((e22.take (at_ % n28)) ++ [(GEvent.mk ((e38.Kind % 4) + 1) e38.View e38.From e38.M)]) ++ (e22.drop ((at_ % n28) + 1))).length) c238) (.tmp rfl rfl) rfl (by omega) one1 rfl) ?_
 rintro w230 hs231
 have hk233:=Kn.rows_set (d:=(kSl kEvent).toKn) (Kn.rows_mono hk14 hle239) (i:=(who % (tracesP (1 + (n % 6)) runs).length)) (by omega) hr234
 have ok232:=ok11.splice (i:=(who % (tracesP (1 + (n % 6)) runs).length) * 1) (vs:=[.slice A237 ((((e22.take (at_ % n28)) ++ [(GEvent.mk ((e38.Kind % 4) + 1) e38.View e38.From e38.M)]) ++ (e22.drop ((at_ % n28) + 1))).length) c238]) (by simpa using hl242)
 have hn243:((tracesP (1 + (n % 6)) runs).set (who % (tracesP (1 + (n % 6)) runs).length) (((e22.take (at_ % n28)) ++ [(GEvent.mk ((e38.Kind % 4) + 1) e38.View e38.From e38.M)]) ++ (e22.drop ((at_ % n28) + 1)))).length = (tracesP (1 + (n % 6)) runs).length:=List.length_set
 have ok244:RowOk (kSl kEvent).sz v10 ((tracesP (1 + (n % 6)) runs).set (who % (tracesP (1 + (n % 6)) runs).length) (((e22.take (at_ % n28)) ++ [(GEvent.mk ((e38.Kind % 4) + 1) e38.View e38.From e38.M)]) ++ (e22.drop ((at_ % n28) + 1)))).length (splice cs13 ((who % (tracesP (1 + (n % 6)) runs).length) * 1) [.slice A237 ((((e22.take (at_ % n28)) ++ [(GEvent.mk ((e38.Kind % 4) + 1) e38.View e38.From e38.M)]) ++ (e22.drop ((at_ % n28) + 1))).length) c238]):=by rw [hn243]; exact ok232
 have hs245:St H236 w230 (row 41 1 v10 (((tracesP (1 + (n % 6)) runs).set (who % (tracesP (1 + (n % 6)) runs).length) (((e22.take (at_ % n28)) ++ [(GEvent.mk ((e38.Kind % 4) + 1) e38.View e38.From e38.M)]) ++ (e22.drop ((at_ % n28) + 1)))).length) (splice cs13 ((who % (tracesP (1 + (n % 6)) runs).length) * 1) [.slice A237 ((((e22.take (at_ % n28)) ++ [(GEvent.mk ((e38.Kind % 4) + 1) e38.View e38.From e38.M)]) ++ (e22.drop ((at_ % n28) + 1))).length) c238])::obj g203 49 [.int .u8 ((((e38.Kind % 4) + 1):Nat):Int),.int .u64 ((e38.View.ID.N:Nat):Int),.int .i64 e38.View.ID.P,.int .u16 ((e38.View.Set:Nat):Int),.int .i64 e38.From,.slice A53 n54 c55]::obj g57 49 [.int .u8 ((((e38.Kind % 4) + 1):Nat):Int),.int .u64 ((e38.View.ID.N:Nat):Int),.int .i64 e38.View.ID.P,.int .u16 ((e38.View.Set:Nat):Int),.int .i64 e38.From,.slice A53 n54 c55]::L):=by rw [hn243]; exact hs231
 refine c_nil (n_then (c_seq (c_region (st (v:=v10) (x_move (.tmp rfl rfl)) ?_))))
 have:((tracesP (1 + (n % 6)) runs).set (who % (tracesP (1 + (n % 6)) runs).length) (((e22.take (at_ % n28)) ++ [(GEvent.mk ((e38.Kind % 4) + 1) e38.View e38.From e38.M)]) ++ (e22.drop ((at_ % n28) + 1)))).length * 24 ≤ 140737488351232:=by omega
 obtain ⟨H246,A247,c248,hle249,hs250,rfl,sp251⟩:=hs245.freezeSl (d:=(kSl kEvent)) ok244 hk233 this
 have:=sp251.len; have:=sp251.le
 refine st_c cb15 .func (evs1 (.tmp rfl rfl)) (judge_spec hs250 ((tracesP (1 + (n % 6)) runs).set (who % (tracesP (1 + (n % 6)) runs).length) (((e22.take (at_ % n28)) ++ [(GEvent.mk ((e38.Kind % 4) + 1) e38.View e38.From e38.M)]) ++ (e22.drop ((at_ % n28) + 1)))) sp251 (by omega) (set_small traces_small (by simp only [List.length_append,List.length_take,List.length_drop,List.length_cons,List.length_nil]; omega)) (htab.mono ((hle9.trans hle239).trans hle249))) ?_
 rintro e w252 ⟨H254,hle255,rfl,hs253⟩
 refine ⟨_,rfl,?_⟩
 refine st (v:=.slice A247 (((tracesP (1 + (n % 6)) runs).set (who % (tracesP (1 + (n % 6)) runs).length) (((e22.take (at_ % n28)) ++ [(GEvent.mk ((e38.Kind % 4) + 1) e38.View e38.From e38.M)]) ++ (e22.drop ((at_ % n28) + 1)))).length) c248) (x_move (.tmp rfl rfl)) ?_
 refine st_c cb16 .func (evs1 (.tmp rfl rfl)) (rviews_spec hs253 ((tracesP (1 + (n % 6)) runs).set (who % (tracesP (1 + (n % 6)) runs).length) (((e22.take (at_ % n28)) ++ [(GEvent.mk ((e38.Kind % 4) + 1) e38.View e38.From e38.M)]) ++ (e22.drop ((at_ % n28) + 1)))) (sp251.mono hle255) ) ?_
 rintro e w256 ⟨H258,hle259,rfl,hs257⟩
 refine ⟨_,rfl,?_⟩
 refine st (v:=.bool ((judgeV ((tracesP (1 + (n % 6)) runs).set (who % (tracesP (1 + (n % 6)) runs).length) (((e22.take (at_ % n28)) ++ [(GEvent.mk ((e38.Kind % 4) + 1) e38.View e38.From e38.M)]) ++ (e22.drop ((at_ % n28) + 1))))) == (refV ((tracesP (1 + (n % 6)) runs).set (who % (tracesP (1 + (n % 6)) runs).length) (((e22.take (at_ % n28)) ++ [(GEvent.mk ((e38.Kind % 4) + 1) e38.View e38.From e38.M)]) ++ (e22.drop ((at_ % n28) + 1))))))) (x_eqlB Tryd.underlying4 (.tmp rfl rfl) (.tmp rfl rfl)) ?_
 refine st (v:=.bool ((judgeV ((tracesP (1 + (n % 6)) runs).set (who % (tracesP (1 + (n % 6)) runs).length) (((e22.take (at_ % n28)) ++ [(GEvent.mk ((e38.Kind % 4) + 1) e38.View e38.From e38.M)]) ++ (e22.drop ((at_ % n28) + 1))))) == (refV ((tracesP (1 + (n % 6)) runs).set (who % (tracesP (1 + (n % 6)) runs).length) (((e22.take (at_ % n28)) ++ [(GEvent.mk ((e38.Kind % 4) + 1) e38.View e38.From e38.M)]) ++ (e22.drop ((at_ % n28) + 1))))))) (x_assign (.tmp rfl rfl)) ?_
 refine c_nil (n_then (c_ret (leave_ret (res_one (v:=.bool ((judgeV ((tracesP (1 + (n % 6)) runs).set (who % (tracesP (1 + (n % 6)) runs).length) (((e22.take (at_ % n28)) ++ [(GEvent.mk ((e38.Kind % 4) + 1) e38.View e38.From e38.M)]) ++ (e22.drop ((at_ % n28) + 1))))) == (refV ((tracesP (1 + (n % 6)) runs).set (who % (tracesP (1 + (n % 6)) runs).length) (((e22.take (at_ % n28)) ++ [(GEvent.mk ((e38.Kind % 4) + 1) e38.View e38.From e38.M)]) ++ (e22.drop ((at_ % n28) + 1))))))) rfl (.mk rfl rfl)) ?_)))
 have hyes:((judgeV ((tracesP (1 + (n % 6)) runs).set (who % (tracesP (1 + (n % 6)) runs).length) (((e22.take (at_ % n28)) ++ [(GEvent.mk ((e38.Kind % 4) + 1) e38.View e38.From e38.M)]) ++ (e22.drop ((at_ % n28) + 1))))) == (refV ((tracesP (1 + (n % 6)) runs).set (who % (tracesP (1 + (n % 6)) runs).length) (((e22.take (at_ % n28)) ++ [(GEvent.mk ((e38.Kind % 4) + 1) e38.View e38.From e38.M)]) ++ (e22.drop ((at_ % n28) + 1)))))) = true:=(by rw [judge_ref]; simp)
 rw [hyes]
 exact ⟨rfl,(hs257.drop.drop.weaken ((((hle9.trans hle239).trans hle249).trans hle255).trans hle259))⟩
 have hp197:¬ (((((how % 6):Nat):Int):Int) = 3):=of_decide_eq_false hc197
 refine c_cond_f (t:=false) (.tmp rfl (cVb hc197)) rfl ?_
 refine c_seq (c_region (st (v:=.bool (decide (((((how % 6):Nat):Int):Int) = 4))) (x_eql (k:=.u8) (a:=(((how % 6):Nat):Int)) (b:=4) (.tmp rfl rfl) .const) ?_))
 refine st (v:=.bool (decide (((((how % 6):Nat):Int):Int) = 4))) (x_assign (.tmp rfl rfl)) ?_
 refine c_nil (n_then ?_)
 rcases Bool.eq_false_or_eq_true (decide (((((how % 6):Nat):Int):Int) = 4)) with hc260 | hc260
 have hp260:((((how % 6):Nat):Int):Int) = 4:=of_decide_eq_true hc260
 refine c_cond_t (t:=true) (.tmp rfl (cVb hc260)) rfl ?_
 refine c_seq (c_region (st (v:=.pointer (some ⟨g57,0 + 1,none⟩)) (fa49_1 (.tmp rfl rfl)) ?_))
 refine st (v:=.pointer (some ⟨g57,0 + 1 + 0,none⟩)) (fa47_0 (.tmp rfl rfl)) ?_
 refine st (v:=.pointer (some ⟨g57,0 + 1 + 0 + 0,none⟩)) (fa44_0 (.tmp rfl rfl)) ?_
 refine st (v:=.int .u64 ((e38.View.ID.N:Nat):Int)) (ld42 (.tmp rfl rfl) (hs74.cell 1 rfl (0 + 1 + 0 + 0) rfl)) ?_
 have hb261:(e38.View.ID.N + 1) < 18446744073709551616:=by omega
 refine st (v:=.int .u64 (((e38.View.ID.N + 1):Nat):Int)) (x_add (k:=.u64) (a:=((e38.View.ID.N:Nat):Int)) (b:=1) (.tmp rfl rfl) .const (wU rfl (by omega) hb261)) ?_
 refine st (v:=.pointer (some ⟨g57,0 + 1,none⟩)) (fa49_1 (.tmp rfl rfl)) ?_
 refine st (v:=.pointer (some ⟨g57,0 + 1 + 0,none⟩)) (fa47_0 (.tmp rfl rfl)) ?_
 refine st (v:=.pointer (some ⟨g57,0 + 1 + 0 + 0,none⟩)) (fa44_0 (.tmp rfl rfl)) ?_
 have hs262:=hs74.p1
 refine st_m0 (sto42 (cs':=[.int .u8 ((e38.Kind:Nat):Int),.int .u64 (((e38.View.ID.N + 1):Nat):Int),.int .i64 e38.View.ID.P,.int .u16 ((e38.View.Set:Nat):Int),.int .i64 e38.From,.slice A53 n54 c55]) (i:=0 + 1 + 0 + 0) hs262 (v:=.int .u64 (((e38.View.ID.N + 1):Nat):Int)) (.tmp rfl rfl) (.tmp rfl rfl) rfl (Nat.le_of_ble_eq_true rfl) one1 rfl) ?_
 rintro w263 hs265
 refine c_nil (n_then (c_region (st (v:=v69) (x_move (.tmp rfl rfl)) ?_)))
 refine st (v:=.agg #[.int .u8 ((e38.Kind:Nat):Int),.int .u64 (((e38.View.ID.N + 1):Nat):Int),.int .i64 e38.View.ID.P,.int .u16 ((e38.View.Set:Nat):Int),.int .i64 e38.From,.slice A53 n54 c55]) (ld49 (cs:=[.int .u8 ((e38.Kind:Nat):Int),.int .u64 (((e38.View.ID.N + 1):Nat):Int),.int .i64 e38.View.ID.P,.int .u16 ((e38.View.Set:Nat):Int),.int .i64 e38.From,.slice A53 n54 c55]) (.tmp rfl rfl) (hs265.at_ 0 rfl (0) rfl) rfl) ?_
 refine st_m (m_lit (n:=1) (ps:=[(0,.agg #[.int .u8 ((e38.Kind:Nat):Int),.int .u64 (((e38.View.ID.N + 1):Nat):Int),.int .i64 e38.View.ID.P,.int .u16 ((e38.View.Set:Nat):Int),.int .i64 e38.From,.slice A53 n54 c55])]) (cs:=[.int .u8 ((e38.Kind:Nat):Int),.int .u64 (((e38.View.ID.N + 1):Nat):Int),.int .i64 e38.View.ID.P,.int .u16 ((e38.View.Set:Nat):Int),.int .i64 e38.From,.slice A53 n54 c55]) Tryd.underlying41 inf49 (.cons (.tmp rfl rfl) Evp.nil) (by decide) (by decide) rfl rfl hs265) ?_
 rintro _ w267 ⟨g266,rfl,hs269⟩
 have hs270:=hs269.p2
 have hr278:kEvent.rep H8 (GEvent.mk e38.Kind (GView.mk (GViewID.mk (e38.View.ID.N + 1) e38.View.ID.P) e38.View.Set) e38.From e38.M) [.int .u8 ((e38.Kind:Nat):Int),.int .u64 (((e38.View.ID.N + 1):Nat):Int),.int .i64 e38.View.ID.P,.int .u16 ((e38.View.Set:Nat):Int),.int .i64 e38.From,.slice A53 n54 c55]:=⟨A53,n54,c55,rfl,b46,hb261,⟨b48,b49⟩,b50,⟨b51,b52⟩,hy56⟩
 refine st_m (m_appK (d:=kEvent) (ys:=[(GEvent.mk e38.Kind (GView.mk (GViewID.mk (e38.View.ID.N + 1) e38.View.ID.P) e38.View.Set) e38.From e38.M)]) (news:=[.int .u8 ((e38.Kind:Nat):Int),.int .u64 (((e38.View.ID.N + 1):Nat):Int),.int .i64 e38.View.ID.P,.int .u16 ((e38.View.Set:Nat):Int),.int .i64 e38.From,.slice A53 n54 c55]) Tryd.underlying41 inf49 rfl hs270 ok72 hk73 (.tmp rfl rfl) (.tmp rfl rfl) (Kn.rows_one hr278) rfl (hs270.at_ 1 rfl 0 rfl) (by have:([(GEvent.mk e38.Kind (GView.mk (GViewID.mk (e38.View.ID.N + 1) e38.View.ID.P) e38.View.Set) e38.From e38.M)]:List GEvent).length = 1:=rfl; omega) (by decide)) ?_
 rintro v271 w272 ⟨cs273,ok274,hk275,hs276⟩
 have hn277:((e22.take (at_ % n28)) ++ [(GEvent.mk e38.Kind (GView.mk (GViewID.mk (e38.View.ID.N + 1) e38.View.ID.P) e38.View.Set) e38.From e38.M)]).length = (e22.take (at_ % n28)).length + 1:=by simp
 refine st (v:=v271) (x_assign (.tmp rfl rfl)) ?_
 refine c_nil (n_block (n_then (c_seq (c_region (st (v:=v10) (x_move (.tmp rfl rfl)) ?_)))))
 refine st (v:=.int .i64 (((who % (tracesP (1 + (n % 6)) runs).length):Nat):Int)) (x_move (.tmp rfl rfl)) ?_
 refine st (v:=v271) (x_move (.tmp rfl rfl)) ?_
 refine st (v:=v10) (x_move (.tmp rfl rfl)) ?_
 refine st (v:=.int .i64 (((who % (tracesP (1 + (n % 6)) runs).length):Nat):Int)) (x_move (.tmp rfl rfl)) ?_
 obtain ⟨g279,c280,hv281⟩:=ok11.pos (by omega)
 refine st (v:=.pointer (some ⟨g279,((who % (tracesP (1 + (n % 6)) runs).length) * 1),none⟩)) (ixo36 (.tmp rfl hv281) rfl (i:=(((who % (tracesP (1 + (n % 6)) runs).length):Nat):Int)) (.tmp rfl rfl) (by omega) (by omega) (by omega)) ?_
 refine st (v:=.slice A27 n28 c29) (ld41 (.tmp rfl rfl) ((hs276.rowAt 3 rfl hv281 ((who % (tracesP (1 + (n % 6)) runs).length) * 1) hsub26).cell 0 rfl)) ?_
 refine st (v:=.int .i64 (((at_ % n28):Nat):Int)) (x_move (.tmp rfl rfl)) ?_
 refine st (v:=.int .i64 ((((at_ % n28) + 1):Nat):Int)) (x_add (k:=.i64) (a:=(((at_ % n28):Nat):Int)) (b:=1) (.tmp rfl rfl) .const ((w64 (by omega) (by omega)).trans (by omega))) ?_
 refine st (v:=.slice (cutA A27 c29 ((at_ % n28) + 1) 6) (n28 - ((at_ % n28) + 1)) (c29 - ((at_ % n28) + 1))) (sl_l (d:=kEvent) Tryd.underlying41 inf49 (a:=((((at_ % n28) + 1):Nat):Int)) (.tmp rfl rfl) (.tmp rfl rfl) (by omega) (by omega) (by omega)) ?_
 refine st_m (m_appSl (d:=kEvent) (ys:=(e22.drop ((at_ % n28) + 1))) Tryd.underlying41 inf49 rfl hs276 ok274 hk275 (.tmp rfl rfl) (.tmp rfl rfl) (hl30.drop (k:=((at_ % n28) + 1)) (by omega)) (by omega) (by decide)) ?_
 rintro v282 w283 ⟨cs284,ok285,hk286,hs287⟩
 have hn288:(((e22.take (at_ % n28)) ++ [(GEvent.mk e38.Kind (GView.mk (GViewID.mk (e38.View.ID.N + 1) e38.View.ID.P) e38.View.Set) e38.From e38.M)]) ++ (e22.drop ((at_ % n28) + 1))).length = ((e22.take (at_ % n28)) ++ [(GEvent.mk e38.Kind (GView.mk (GViewID.mk (e38.View.ID.N + 1) e38.View.ID.P) e38.View.Set) e38.From e38.M)]).length + (n28 - ((at_ % n28) + 1)):=by rw [List.length_append,(hl30.drop (k:=((at_ % n28) + 1)) (by omega)).len]
 obtain ⟨g289,c290,hv291⟩:=ok11.pos (by omega)
 refine st (v:=.pointer (some ⟨g289,((who % (tracesP (1 + (n % 6)) runs).length) * 1),none⟩)) (ixo36 (.tmp rfl hv291) rfl (i:=(((who % (tracesP (1 + (n % 6)) runs).length):Nat):Int)) (.tmp rfl rfl) (by omega) (by omega) (by omega)) ?_
 have hs292:=hs287.p3
 have hs298:=hs292.p1
 have:(((e22.take (at_ % n28)) ++ [(GEvent.mk e38.Kind (GView.mk (GViewID.mk (e38.View.ID.N + 1) e38.View.ID.P) e38.View.Set) e38.From e38.M)]) ++ (e22.drop ((at_ % n28) + 1))).length * 64 ≤ 140737488351232:=by omega
 obtain ⟨H299,A300,c301,hle302,hs303,rfl,sp304⟩:=hs298.freezeSl (d:=kEvent) ok285 hk286 this
 have:=sp304.len; have:=sp304.le
 have hl305:(who % (tracesP (1 + (n % 6)) runs).length) * 1 + 1 ≤ cs13.length:=by have h1:=((Kn.rows_mono hk14 hle302)).1; have h2:(kSl kEvent).sz = 1:=rfl; rw [h2] at h1; omega
 have hr297:(kSl kEvent).rep H299 (((e22.take (at_ % n28)) ++ [(GEvent.mk e38.Kind (GView.mk (GViewID.mk (e38.View.ID.N + 1) e38.View.ID.P) e38.View.Set) e38.From e38.M)]) ++ (e22.drop ((at_ % n28) + 1))) [.slice A300 ((((e22.take (at_ % n28)) ++ [(GEvent.mk e38.Kind (GView.mk (GViewID.mk (e38.View.ID.N + 1) e38.View.ID.P) e38.View.Set) e38.From e38.M)]) ++ (e22.drop ((at_ % n28) + 1))).length) c301]:=⟨A300,((((e22.take (at_ % n28)) ++ [(GEvent.mk e38.Kind (GView.mk (GViewID.mk (e38.View.ID.N + 1) e38.View.ID.P) e38.View.Set) e38.From e38.M)]) ++ (e22.drop ((at_ % n28) + 1))).length),c301,rfl,sp304⟩
 refine st_m0 (stor41 hs303 hv291 (i:=((who % (tracesP (1 + (n % 6)) runs).length) * 1)) (xs':=splice cs13 ((who % (tracesP (1 + (n % 6)) runs).length) * 1) [.slice A300 ((((e22.take (at_ % n28)) ++ [(GEvent.mk e38.Kind (GView.mk (GViewID.mk (e38.View.ID.N + 1) e38.View.ID.P) e38.View.Set) e38.From e38.M)]) ++ (e22.drop ((at_ % n28) + 1))).length) c301]) (.tmp rfl rfl) (u:=.slice A300 ((((e22.take (at_ % n28)) ++ [(GEvent.mk e38.Kind (GView.mk (GViewID.mk (e38.View.ID.N + 1) e38.View.ID.P) e38.View.Set) e38.From e38.M)]) ++ (e22.drop ((at_ % n28) + 1))).length) c301) (.tmp rfl rfl) rfl (by omega) one1 rfl) ?_
 rintro w293 hs294
 have hk296:=Kn.rows_set (d:=(kSl kEvent).toKn) (Kn.rows_mono hk14 hle302) (i:=(who % (tracesP (1 + (n % 6)) runs).length)) (by omega) hr297
 have ok295:=ok11.splice (i:=(who % (tracesP (1 + (n % 6)) runs).length) * 1) (vs:=[.slice A300 ((((e22.take (at_ % n28)) ++ [(GEvent.mk e38.Kind (GView.mk (GViewID.mk (e38.View.ID.N + 1) e38.View.ID.P) e38.View.Set) e38.From e38.M)]) ++ (e22.drop ((at_ % n28) + 1))).length) c301]) (by simpa using hl305)
 have hn306:((tracesP (1 + (n % 6)) runs).set (who % (tracesP (1 + (n % 6)) runs).length) (((e22.take (at_ % n28)) ++ [(GEvent.mk e38.Kind (GView.mk (GViewID.mk (e38.View.ID.N + 1) e38.View.ID.P) e38.View.Set) e38.From e38.M)]) ++ (e22.drop ((at_ % n28) + 1)))).length = (tracesP (1 + (n % 6)) runs).length:=List.length_set
 have ok307:RowOk (kSl kEvent).sz v10 ((tracesP (1 + (n % 6)) runs).set (who % (tracesP (1 + (n % 6)) runs).length) (((e22.take (at_ % n28)) ++ [(GEvent.mk e38.Kind (GView.mk (GViewID.mk (e38.View.ID.N + 1) e38.View.ID.P) e38.View.Set) e38.From e38.M)]) ++ (e22.drop ((at_ % n28) + 1)))).length (splice cs13 ((who % (tracesP (1 + (n % 6)) runs).length) * 1) [.slice A300 ((((e22.take (at_ % n28)) ++ [(GEvent.mk e38.Kind (GView.mk (GViewID.mk (e38.View.ID.N + 1) e38.View.ID.P) e38.View.Set) e38.From e38.M)]) ++ (e22.drop ((at_ % n28) + 1))).length) c301]):=by rw [hn306]; exact ok295
 have hs308:St H299 w293 (row 41 1 v10 (((tracesP (1 + (n % 6)) runs).set (who % (tracesP (1 + (n % 6)) runs).length) (((e22.take (at_ % n28)) ++ [(GEvent.mk e38.Kind (GView.mk (GViewID.mk (e38.View.ID.N + 1) e38.View.ID.P) e38.View.Set) e38.From e38.M)]) ++ (e22.drop ((at_ % n28) + 1)))).length) (splice cs13 ((who % (tracesP (1 + (n % 6)) runs).length) * 1) [.slice A300 ((((e22.take (at_ % n28)) ++ [(GEvent.mk e38.Kind (GView.mk (GViewID.mk (e38.View.ID.N + 1) e38.View.ID.P) e38.View.Set) e38.From e38.M)]) ++ (e22.drop ((at_ % n28) + 1))).length) c301])::obj g266 49 [.int .u8 ((e38.Kind:Nat):Int),.int .u64 (((e38.View.ID.N + 1):Nat):Int),.int .i64 e38.View.ID.P,.int .u16 ((e38.View.Set:Nat):Int),.int .i64 e38.From,.slice A53 n54 c55]::obj g57 49 [.int .u8 ((e38.Kind:Nat):Int),.int .u64 (((e38.View.ID.N + 1):Nat):Int),.int .i64 e38.View.ID.P,.int .u16 ((e38.View.Set:Nat):Int),.int .i64 e38.From,.slice A53 n54 c55]::L):=by rw [hn306]; exact hs294
 refine c_nil (n_then (c_seq (c_region (st (v:=v10) (x_move (.tmp rfl rfl)) ?_))))
 have:((tracesP (1 + (n % 6)) runs).set (who % (tracesP (1 + (n % 6)) runs).length) (((e22.take (at_ % n28)) ++ [(GEvent.mk e38.Kind (GView.mk (GViewID.mk (e38.View.ID.N + 1) e38.View.ID.P) e38.View.Set) e38.From e38.M)]) ++ (e22.drop ((at_ % n28) + 1)))).length * 24 ≤ 140737488351232:=by omega
 obtain ⟨H309,A310,c311,hle312,hs313,rfl,sp314⟩:=hs308.freezeSl (d:=(kSl kEvent)) ok307 hk296 this
 have:=sp314.len; have:=sp314.le
 refine st_c cb15 .func (evs1 (.tmp rfl rfl)) (judge_spec hs313 ((tracesP (1 + (n % 6)) runs).set (who % (tracesP (1 + (n % 6)) runs).length) (((e22.take (at_ % n28)) ++ [(GEvent.mk e38.Kind (GView.mk (GViewID.mk (e38.View.ID.N + 1) e38.View.ID.P) e38.View.Set) e38.From e38.M)]) ++ (e22.drop ((at_ % n28) + 1)))) sp314 (by omega) (set_small traces_small (by simp only [List.length_append,List.length_take,List.length_drop,List.length_cons,List.length_nil]; omega)) (htab.mono ((hle9.trans hle302).trans hle312))) ?_
 rintro e w315 ⟨H317,hle318,rfl,hs316⟩
 refine ⟨_,rfl,?_⟩
 refine st (v:=.slice A310 (((tracesP (1 + (n % 6)) runs).set (who % (tracesP (1 + (n % 6)) runs).length) (((e22.take (at_ % n28)) ++ [(GEvent.mk e38.Kind (GView.mk (GViewID.mk (e38.View.ID.N + 1) e38.View.ID.P) e38.View.Set) e38.From e38.M)]) ++ (e22.drop ((at_ % n28) + 1)))).length) c311) (x_move (.tmp rfl rfl)) ?_
 refine st_c cb16 .func (evs1 (.tmp rfl rfl)) (rviews_spec hs316 ((tracesP (1 + (n % 6)) runs).set (who % (tracesP (1 + (n % 6)) runs).length) (((e22.take (at_ % n28)) ++ [(GEvent.mk e38.Kind (GView.mk (GViewID.mk (e38.View.ID.N + 1) e38.View.ID.P) e38.View.Set) e38.From e38.M)]) ++ (e22.drop ((at_ % n28) + 1)))) (sp314.mono hle318) ) ?_
 rintro e w319 ⟨H321,hle322,rfl,hs320⟩
 refine ⟨_,rfl,?_⟩
 refine st (v:=.bool ((judgeV ((tracesP (1 + (n % 6)) runs).set (who % (tracesP (1 + (n % 6)) runs).length) (((e22.take (at_ % n28)) ++ [(GEvent.mk e38.Kind (GView.mk (GViewID.mk (e38.View.ID.N + 1) e38.View.ID.P) e38.View.Set) e38.From e38.M)]) ++ (e22.drop ((at_ % n28) + 1))))) == (refV ((tracesP (1 + (n % 6)) runs).set (who % (tracesP (1 + (n % 6)) runs).length) (((e22.take (at_ % n28)) ++ [(GEvent.mk e38.Kind (GView.mk (GViewID.mk (e38.View.ID.N + 1) e38.View.ID.P) e38.View.Set) e38.From e38.M)]) ++ (e22.drop ((at_ % n28) + 1))))))) (x_eqlB Tryd.underlying4 (.tmp rfl rfl) (.tmp rfl rfl)) ?_
 refine st (v:=.bool ((judgeV ((tracesP (1 + (n % 6)) runs).set (who % (tracesP (1 + (n % 6)) runs).length) (((e22.take (at_ % n28)) ++ [(GEvent.mk e38.Kind (GView.mk (GViewID.mk (e38.View.ID.N + 1) e38.View.ID.P) e38.View.Set) e38.From e38.M)]) ++ (e22.drop ((at_ % n28) + 1))))) == (refV ((tracesP (1 + (n % 6)) runs).set (who % (tracesP (1 + (n % 6)) runs).length) (((e22.take (at_ % n28)) ++ [(GEvent.mk e38.Kind (GView.mk (GViewID.mk (e38.View.ID.N + 1) e38.View.ID.P) e38.View.Set) e38.From e38.M)]) ++ (e22.drop ((at_ % n28) + 1))))))) (x_assign (.tmp rfl rfl)) ?_
 refine c_nil (n_then (c_ret (leave_ret (res_one (v:=.bool ((judgeV ((tracesP (1 + (n % 6)) runs).set (who % (tracesP (1 + (n % 6)) runs).length) (((e22.take (at_ % n28)) ++ [(GEvent.mk e38.Kind (GView.mk (GViewID.mk (e38.View.ID.N + 1) e38.View.ID.P) e38.View.Set) e38.From e38.M)]) ++ (e22.drop ((at_ % n28) + 1))))) == (refV ((tracesP (1 + (n % 6)) runs).set (who % (tracesP (1 + (n % 6)) runs).length) (((e22.take (at_ % n28)) ++ [(GEvent.mk e38.Kind (GView.mk (GViewID.mk (e38.View.ID.N + 1) e38.View.ID.P) e38.View.Set) e38.From e38.M)]) ++ (e22.drop ((at_ % n28) + 1))))))) rfl (.mk rfl rfl)) ?_)))
 have hyes:((judgeV ((tracesP (1 + (n % 6)) runs).set (who % (tracesP (1 + (n % 6)) runs).length) (((e22.take (at_ % n28)) ++ [(GEvent.mk e38.Kind (GView.mk (GViewID.mk (e38.View.ID.N + 1) e38.View.ID.P) e38.View.Set) e38.From e38.M)]) ++ (e22.drop ((at_ % n28) + 1))))) == (refV ((tracesP (1 + (n % 6)) runs).set (who % (tracesP (1 + (n % 6)) runs).length) (((e22.take (at_ % n28)) ++ [(GEvent.mk e38.Kind (GView.mk (GViewID.mk (e38.View.ID.N + 1) e38.View.ID.P) e38.View.Set) e38.From e38.M)]) ++ (e22.drop ((at_ % n28) + 1)))))) = true:=(by rw [judge_ref]; simp)
 rw [hyes]
 exact ⟨rfl,(hs320.drop.drop.weaken ((((hle9.trans hle302).trans hle312).trans hle318).trans hle322))⟩
 have hp260:¬ (((((how % 6):Nat):Int):Int) = 4):=of_decide_eq_false hc260
 refine c_cond_f (t:=false) (.tmp rfl (cVb hc260)) rfl ?_
 refine c_seq (c_region (st (v:=.bool (decide (((((how % 6):Nat):Int):Int) = 5))) (x_eql (k:=.u8) (a:=(((how % 6):Nat):Int)) (b:=5) (.tmp rfl rfl) .const) ?_))
 refine st (v:=.bool (decide (((((how % 6):Nat):Int):Int) = 5))) (x_assign (.tmp rfl rfl)) ?_
 refine c_nil (n_then ?_)
 rcases Bool.eq_false_or_eq_true (decide (((((how % 6):Nat):Int):Int) = 5)) with hc323 | hc323
 have hp323:((((how % 6):Nat):Int):Int) = 5:=of_decide_eq_true hc323
 refine c_cond_t (t:=true) (.tmp rfl (cVb hc323)) rfl ?_
 refine c_seq (c_region (st (v:=.pointer (some ⟨g57,0 + 1,none⟩)) (fa49_1 (.tmp rfl rfl)) ?_))
 refine st (v:=.pointer (some ⟨g57,0 + 1 + 2,none⟩)) (fa47_1 (.tmp rfl rfl)) ?_
 refine st (v:=.int .u16 ((e38.View.Set:Nat):Int)) (ld45 (.tmp rfl rfl) (hs74.cell 1 rfl (0 + 1 + 2) rfl)) ?_
 have hb324:(e38.View.Set ^^^ 1) < 65536:=Nat.xor_lt_two_pow (n:=16) b50 (by decide)
 refine st (v:=.int .u16 (((e38.View.Set ^^^ 1):Nat):Int)) (x_xor (k:=.u16) (m:=e38.View.Set) (n:=1) rfl (.tmp rfl rfl) .const (show _ < 2 ^ 16 from b50) (show _ < 2 ^ 16 from (by decide))) ?_
 refine st (v:=.pointer (some ⟨g57,0 + 1,none⟩)) (fa49_1 (.tmp rfl rfl)) ?_
 refine st (v:=.pointer (some ⟨g57,0 + 1 + 2,none⟩)) (fa47_1 (.tmp rfl rfl)) ?_
 have hs325:=hs74.p1
 refine st_m0 (sto45 (cs':=[.int .u8 ((e38.Kind:Nat):Int),.int .u64 ((e38.View.ID.N:Nat):Int),.int .i64 e38.View.ID.P,.int .u16 (((e38.View.Set ^^^ 1):Nat):Int),.int .i64 e38.From,.slice A53 n54 c55]) (i:=0 + 1 + 2) hs325 (v:=.int .u16 (((e38.View.Set ^^^ 1):Nat):Int)) (.tmp rfl rfl) (.tmp rfl rfl) rfl (Nat.le_of_ble_eq_true rfl) one1 rfl) ?_
 rintro w326 hs328
 refine c_nil (n_then (c_region (st (v:=v69) (x_move (.tmp rfl rfl)) ?_)))
 refine st (v:=.agg #[.int .u8 ((e38.Kind:Nat):Int),.int .u64 ((e38.View.ID.N:Nat):Int),.int .i64 e38.View.ID.P,.int .u16 (((e38.View.Set ^^^ 1):Nat):Int),.int .i64 e38.From,.slice A53 n54 c55]) (ld49 (cs:=[.int .u8 ((e38.Kind:Nat):Int),.int .u64 ((e38.View.ID.N:Nat):Int),.int .i64 e38.View.ID.P,.int .u16 (((e38.View.Set ^^^ 1):Nat):Int),.int .i64 e38.From,.slice A53 n54 c55]) (.tmp rfl rfl) (hs328.at_ 0 rfl (0) rfl) rfl) ?_
 refine st_m (m_lit (n:=1) (ps:=[(0,.agg #[.int .u8 ((e38.Kind:Nat):Int),.int .u64 ((e38.View.ID.N:Nat):Int),.int .i64 e38.View.ID.P,.int .u16 (((e38.View.Set ^^^ 1):Nat):Int),.int .i64 e38.From,.slice A53 n54 c55])]) (cs:=[.int .u8 ((e38.Kind:Nat):Int),.int .u64 ((e38.View.ID.N:Nat):Int),.int .i64 e38.View.ID.P,.int .u16 (((e38.View.Set ^^^ 1):Nat):Int),.int .i64 e38.From,.slice A53 n54 c55]) Tryd.underlying41 inf49 (.cons (.tmp rfl rfl) Evp.nil) (by decide) (by decide) rfl rfl hs328) ?_
 rintro _ w330 ⟨g329,rfl,hs332⟩
 have hs333:=hs332.p2
 have hr341:kEvent.rep H8 (GEvent.mk e38.Kind (GView.mk e38.View.ID (e38.View.Set ^^^ 1)) e38.From e38.M) [.int .u8 ((e38.Kind:Nat):Int),.int .u64 ((e38.View.ID.N:Nat):Int),.int .i64 e38.View.ID.P,.int .u16 (((e38.View.Set ^^^ 1):Nat):Int),.int .i64 e38.From,.slice A53 n54 c55]:=⟨A53,n54,c55,rfl,b46,b47,⟨b48,b49⟩,hb324,⟨b51,b52⟩,hy56⟩
 refine st_m (m_appK (d:=kEvent) (ys:=[(GEvent.mk e38.Kind (GView.mk e38.View.ID (e38.View.Set ^^^ 1)) e38.From e38.M)]) (news:=[.int .u8 ((e38.Kind:Nat):Int),.int .u64 ((e38.View.ID.N:Nat):Int),.int .i64 e38.View.ID.P,.int .u16 (((e38.View.Set ^^^ 1):Nat):Int),.int .i64 e38.From,.slice A53 n54 c55]) Tryd.underlying41 inf49 rfl hs333 ok72 hk73 (.tmp rfl rfl) (.tmp rfl rfl) (Kn.rows_one hr341) rfl (hs333.at_ 1 rfl 0 rfl) (by have:([(GEvent.mk e38.Kind (GView.mk e38.View.ID (e38.View.Set ^^^ 1)) e38.From e38.M)]:List GEvent).length = 1:=rfl; omega) (by decide)) ?_
 rintro v334 w335 ⟨cs336,ok337,hk338,hs339⟩
 have hn340:((e22.take (at_ % n28)) ++ [(GEvent.mk e38.Kind (GView.mk e38.View.ID (e38.View.Set ^^^ 1)) e38.From e38.M)]).length = (e22.take (at_ % n28)).length + 1:=by simp
 refine st (v:=v334) (x_assign (.tmp rfl rfl)) ?_
 refine c_nil (n_block (n_then (c_seq (c_region (st (v:=v10) (x_move (.tmp rfl rfl)) ?_)))))
 refine st (v:=.int .i64 (((who % (tracesP (1 + (n % 6)) runs).length):Nat):Int)) (x_move (.tmp rfl rfl)) ?_
 refine st (v:=v334) (x_move (.tmp rfl rfl)) ?_
 refine st (v:=v10) (x_move (.tmp rfl rfl)) ?_
 refine st (v:=.int .i64 (((who % (tracesP (1 + (n % 6)) runs).length):Nat):Int)) (x_move (.tmp rfl rfl)) ?_
 obtain ⟨g342,c343,hv344⟩:=ok11.pos (by omega)
 refine st (v:=.pointer (some ⟨g342,((who % (tracesP (1 + (n % 6)) runs).length) * 1),none⟩)) (ixo36 (.tmp rfl hv344) rfl (i:=(((who % (tracesP (1 + (n % 6)) runs).length):Nat):Int)) (.tmp rfl rfl) (by omega) (by omega) (by omega)) ?_
 refine st (v:=.slice A27 n28 c29) (ld41 (.tmp rfl rfl) ((hs339.rowAt 3 rfl hv344 ((who % (tracesP (1 + (n % 6)) runs).length) * 1) hsub26).cell 0 rfl)) ?_
 refine st (v:=.int .i64 (((at_ % n28):Nat):Int)) (x_move (.tmp rfl rfl)) ?_
 refine st (v:=.int .i64 ((((at_ % n28) + 1):Nat):Int)) (x_add (k:=.i64) (a:=(((at_ % n28):Nat):Int)) (b:=1) (.tmp rfl rfl) .const ((w64 (by omega) (by omega)).trans (by omega))) ?_
 refine st (v:=.slice (cutA A27 c29 ((at_ % n28) + 1) 6) (n28 - ((at_ % n28) + 1)) (c29 - ((at_ % n28) + 1))) (sl_l (d:=kEvent) Tryd.underlying41 inf49 (a:=((((at_ % n28) + 1):Nat):Int)) (.tmp rfl rfl) (.tmp rfl rfl) (by omega) (by omega) (by omega)) ?_
 refine st_m (m_appSl (d:=kEvent) (ys:=(e22.drop ((at_ % n28) + 1))) Tryd.underlying41 inf49 rfl hs339 ok337 hk338 (.tmp rfl rfl) (.tmp rfl rfl) (hl30.drop (k:=((at_ % n28) + 1)) (by omega)) (by omega) (by decide)) ?_
 rintro v345 w346 ⟨cs347,ok348,hk349,hs350⟩
 have hn351:(((e22.take (at_ % n28)) ++ [(GEvent.mk e38.Kind (GView.mk e38.View.ID (e38.View.Set ^^^ 1)) e38.From e38.M)]) ++ (e22.drop ((at_ % n28) + 1))).length = ((e22.take (at_ % n28)) ++ [(GEvent.mk e38.Kind (GView.mk e38.View.ID (e38.View.Set ^^^ 1)) e38.From e38.M)]).length + (n28 - ((at_ % n28) + 1)):=by rw [List.length_append,(hl30.drop (k:=((at_ % n28) + 1)) (by omega)).len]
 obtain ⟨g352,c353,hv354⟩:=ok11.pos (by omega)
 refine st (v:=.pointer (some ⟨g352,((who % (tracesP (1 + (n % 6)) runs).length) * 1),none⟩)) (ixo36 (.tmp rfl hv354) rfl (i:=(((who % (tracesP (1 + (n % 6)) runs).length):Nat):Int)) (.tmp rfl rfl) (by omega) (by omega) (by omega)) ?_
 have hs355:=hs350.p3
 have hs361:=hs355.p1
 have:(((e22.take (at_ % n28)) ++ [(GEvent.mk e38.Kind (GView.mk e38.View.ID (e38.View.Set ^^^ 1)) e38.From e38.M)]) ++ (e22.drop ((at_ % n28) + 1))).length * 64 ≤ 140737488351232:=by omega
 obtain ⟨H362,A363,c364,hle365,hs366,rfl,sp367⟩:=hs361.freezeSl (d:=kEvent) ok348 hk349 this
 have:=sp367.len; have:=sp367.le
 have hl368:(who % (tracesP (1 + (n % 6)) runs).length) * 1 + 1 ≤ cs13.length:=by have h1:=((Kn.rows_mono hk14 hle365)).1; have h2:(kSl kEvent).sz = 1:=rfl; rw [h2] at h1; omega
 have hr360:(kSl kEvent).rep H362 (((e22.take (at_ % n28)) ++ [(GEvent.mk e38.Kind (GView.mk e38.View.ID (e38.View.Set ^^^ 1)) e38.From e38.M)]) ++ (e22.drop ((at_ % n28) + 1))) [.slice A363 ((((e22.take (at_ % n28)) ++ [(GEvent.mk e38.Kind (GView.mk e38.View.ID (e38.View.Set ^^^ 1)) e38.From e38.M)]) ++ (e22.drop ((at_ % n28) + 1))).length) c364]:=⟨A363,((((e22.take (at_ % n28)) ++ [(GEvent.mk e38.Kind (GView.mk e38.View.ID (e38.View.Set ^^^ 1)) e38.From e38.M)]) ++ (e22.drop ((at_ % n28) + 1))).length),c364,rfl,sp367⟩
 refine st_m0 (stor41 hs366 hv354 (i:=((who % (tracesP (1 + (n % 6)) runs).length) * 1)) (xs':=splice cs13 ((who % (tracesP (1 + (n % 6)) runs).length) * 1) [.slice A363 ((((e22.take (at_ % n28)) ++ [(GEvent.mk e38.Kind (GView.mk e38.View.ID (e38.View.Set ^^^ 1)) e38.From e38.M)]) ++ (e22.drop ((at_ % n28) + 1))).length) c364]) (.tmp rfl rfl) (u:=.slice A363 ((((e22.take (at_ % n28)) ++ [(GEvent.mk e38.Kind (GView.mk e38.View.ID (e38.View.Set ^^^ 1)) e38.From e38.M)]) ++ (e22.drop ((at_ % n28) + 1))).length) c364) (.tmp rfl rfl) rfl (by omega) one1 rfl) ?_
 rintro w356 hs357
 have hk359:=Kn.rows_set (d:=(kSl kEvent).toKn) (Kn.rows_mono hk14 hle365) (i:=(who % (tracesP (1 + (n % 6)) runs).length)) (by omega) hr360
 have ok358:=ok11.splice (i:=(who % (tracesP (1 + (n % 6)) runs).length) * 1) (vs:=[.slice A363 ((((e22.take (at_ % n28)) ++ [(GEvent.mk e38.Kind (GView.mk e38.View.ID (e38.View.Set ^^^ 1)) e38.From e38.M)]) ++ (e22.drop ((at_ % n28) + 1))).length) c364]) (by simpa using hl368)
 have hn369:((tracesP (1 + (n % 6)) runs).set (who % (tracesP (1 + (n % 6)) runs).length) (((e22.take (at_ % n28)) ++ [(GEvent.mk e38.Kind (GView.mk e38.View.ID (e38.View.Set ^^^ 1)) e38.From e38.M)]) ++ (e22.drop ((at_ % n28) + 1)))).length = (tracesP (1 + (n % 6)) runs).length:=List.length_set
 have ok370:RowOk (kSl kEvent).sz v10 ((tracesP (1 + (n % 6)) runs).set (who % (tracesP (1 + (n % 6)) runs).length) (((e22.take (at_ % n28)) ++ [(GEvent.mk e38.Kind (GView.mk e38.View.ID (e38.View.Set ^^^ 1)) e38.From e38.M)]) ++ (e22.drop ((at_ % n28) + 1)))).length (splice cs13 ((who % (tracesP (1 + (n % 6)) runs).length) * 1) [.slice A363 ((((e22.take (at_ % n28)) ++ [(GEvent.mk e38.Kind (GView.mk e38.View.ID (e38.View.Set ^^^ 1)) e38.From e38.M)]) ++ (e22.drop ((at_ % n28) + 1))).length) c364]):=by rw [hn369]; exact ok358
 have hs371:St H362 w356 (row 41 1 v10 (((tracesP (1 + (n % 6)) runs).set (who % (tracesP (1 + (n % 6)) runs).length) (((e22.take (at_ % n28)) ++ [(GEvent.mk e38.Kind (GView.mk e38.View.ID (e38.View.Set ^^^ 1)) e38.From e38.M)]) ++ (e22.drop ((at_ % n28) + 1)))).length) (splice cs13 ((who % (tracesP (1 + (n % 6)) runs).length) * 1) [.slice A363 ((((e22.take (at_ % n28)) ++ [(GEvent.mk e38.Kind (GView.mk e38.View.ID (e38.View.Set ^^^ 1)) e38.From e38.M)]) ++ (e22.drop ((at_ % n28) + 1))).length) c364])::obj g329 49 [.int .u8 ((e38.Kind:Nat):Int),.int .u64 ((e38.View.ID.N:Nat):Int),.int .i64 e38.View.ID.P,.int .u16 (((e38.View.Set ^^^ 1):Nat):Int),.int .i64 e38.From,.slice A53 n54 c55]::obj g57 49 [.int .u8 ((e38.Kind:Nat):Int),.int .u64 ((e38.View.ID.N:Nat):Int),.int .i64 e38.View.ID.P,.int .u16 (((e38.View.Set ^^^ 1):Nat):Int),.int .i64 e38.From,.slice A53 n54 c55]::L):=by rw [hn369]; exact hs357
 refine c_nil (n_then (c_seq (c_region (st (v:=v10) (x_move (.tmp rfl rfl)) ?_))))
 have:((tracesP (1 + (n % 6)) runs).set (who % (tracesP (1 + (n % 6)) runs).length) (((e22.take (at_ % n28)) ++ [(GEvent.mk e38.Kind (GView.mk e38.View.ID (e38.View.Set ^^^ 1)) e38.From e38.M)]) ++ (e22.drop ((at_ % n28) + 1)))).length * 24 ≤ 140737488351232:=by omega
 obtain ⟨H372,A373,c374,hle375,hs376,rfl,sp377⟩:=hs371.freezeSl (d:=(kSl kEvent)) ok370 hk359 this
 have:=sp377.len; have:=sp377.le
 refine st_c cb15 .func (evs1 (.tmp rfl rfl)) (judge_spec hs376 ((tracesP (1 + (n % 6)) runs).set (who % (tracesP (1 + (n % 6)) runs).length) (((e22.take (at_ % n28)) ++ [(GEvent.mk e38.Kind (GView.mk e38.View.ID (e38.View.Set ^^^ 1)) e38.From e38.M)]) ++ (e22.drop ((at_ % n28) + 1)))) sp377 (by omega) (set_small traces_small (by simp only [List.length_append,List.length_take,List.length_drop,List.length_cons,List.length_nil]; omega)) (htab.mono ((hle9.trans hle365).trans hle375))) ?_
 rintro e w378 ⟨H380,hle381,rfl,hs379⟩
 refine ⟨_,rfl,?_⟩
 refine st (v:=.slice A373 (((tracesP (1 + (n % 6)) runs).set (who % (tracesP (1 + (n % 6)) runs).length) (((e22.take (at_ % n28)) ++ [(GEvent.mk e38.Kind (GView.mk e38.View.ID (e38.View.Set ^^^ 1)) e38.From e38.M)]) ++ (e22.drop ((at_ % n28) + 1)))).length) c374) (x_move (.tmp rfl rfl)) ?_
 refine st_c cb16 .func (evs1 (.tmp rfl rfl)) (rviews_spec hs379 ((tracesP (1 + (n % 6)) runs).set (who % (tracesP (1 + (n % 6)) runs).length) (((e22.take (at_ % n28)) ++ [(GEvent.mk e38.Kind (GView.mk e38.View.ID (e38.View.Set ^^^ 1)) e38.From e38.M)]) ++ (e22.drop ((at_ % n28) + 1)))) (sp377.mono hle381) ) ?_
 rintro e w382 ⟨H384,hle385,rfl,hs383⟩
 refine ⟨_,rfl,?_⟩
 refine st (v:=.bool ((judgeV ((tracesP (1 + (n % 6)) runs).set (who % (tracesP (1 + (n % 6)) runs).length) (((e22.take (at_ % n28)) ++ [(GEvent.mk e38.Kind (GView.mk e38.View.ID (e38.View.Set ^^^ 1)) e38.From e38.M)]) ++ (e22.drop ((at_ % n28) + 1))))) == (refV ((tracesP (1 + (n % 6)) runs).set (who % (tracesP (1 + (n % 6)) runs).length) (((e22.take (at_ % n28)) ++ [(GEvent.mk e38.Kind (GView.mk e38.View.ID (e38.View.Set ^^^ 1)) e38.From e38.M)]) ++ (e22.drop ((at_ % n28) + 1))))))) (x_eqlB Tryd.underlying4 (.tmp rfl rfl) (.tmp rfl rfl)) ?_
 refine st (v:=.bool ((judgeV ((tracesP (1 + (n % 6)) runs).set (who % (tracesP (1 + (n % 6)) runs).length) (((e22.take (at_ % n28)) ++ [(GEvent.mk e38.Kind (GView.mk e38.View.ID (e38.View.Set ^^^ 1)) e38.From e38.M)]) ++ (e22.drop ((at_ % n28) + 1))))) == (refV ((tracesP (1 + (n % 6)) runs).set (who % (tracesP (1 + (n % 6)) runs).length) (((e22.take (at_ % n28)) ++ [(GEvent.mk e38.Kind (GView.mk e38.View.ID (e38.View.Set ^^^ 1)) e38.From e38.M)]) ++ (e22.drop ((at_ % n28) + 1))))))) (x_assign (.tmp rfl rfl)) ?_
 refine c_nil (n_then (c_ret (leave_ret (res_one (v:=.bool ((judgeV ((tracesP (1 + (n % 6)) runs).set (who % (tracesP (1 + (n % 6)) runs).length) (((e22.take (at_ % n28)) ++ [(GEvent.mk e38.Kind (GView.mk e38.View.ID (e38.View.Set ^^^ 1)) e38.From e38.M)]) ++ (e22.drop ((at_ % n28) + 1))))) == (refV ((tracesP (1 + (n % 6)) runs).set (who % (tracesP (1 + (n % 6)) runs).length) (((e22.take (at_ % n28)) ++ [(GEvent.mk e38.Kind (GView.mk e38.View.ID (e38.View.Set ^^^ 1)) e38.From e38.M)]) ++ (e22.drop ((at_ % n28) + 1))))))) rfl (.mk rfl rfl)) ?_)))
 have hyes:((judgeV ((tracesP (1 + (n % 6)) runs).set (who % (tracesP (1 + (n % 6)) runs).length) (((e22.take (at_ % n28)) ++ [(GEvent.mk e38.Kind (GView.mk e38.View.ID (e38.View.Set ^^^ 1)) e38.From e38.M)]) ++ (e22.drop ((at_ % n28) + 1))))) == (refV ((tracesP (1 + (n % 6)) runs).set (who % (tracesP (1 + (n % 6)) runs).length) (((e22.take (at_ % n28)) ++ [(GEvent.mk e38.Kind (GView.mk e38.View.ID (e38.View.Set ^^^ 1)) e38.From e38.M)]) ++ (e22.drop ((at_ % n28) + 1)))))) = true:=(by rw [judge_ref]; simp)
 rw [hyes]
 exact ⟨rfl,(hs383.drop.drop.weaken ((((hle9.trans hle365).trans hle375).trans hle381).trans hle385))⟩
 have hp323:¬ (((((how % 6):Nat):Int):Int) = 5):=of_decide_eq_false hc323
 refine c_cond_f (t:=false) (.tmp rfl (cVb hc323)) rfl ?_
 refine c_skip (n_block (n_then (c_seq (c_region (st (v:=v10) (x_move (.tmp rfl rfl)) ?_)))))
 refine st (v:=.int .i64 (((who % (tracesP (1 + (n % 6)) runs).length):Nat):Int)) (x_move (.tmp rfl rfl)) ?_
 refine st (v:=v69) (x_move (.tmp rfl rfl)) ?_
 refine st (v:=v10) (x_move (.tmp rfl rfl)) ?_
 refine st (v:=.int .i64 (((who % (tracesP (1 + (n % 6)) runs).length):Nat):Int)) (x_move (.tmp rfl rfl)) ?_
 obtain ⟨g386,c387,hv388⟩:=ok11.pos (by omega)
 refine st (v:=.pointer (some ⟨g386,((who % (tracesP (1 + (n % 6)) runs).length) * 1),none⟩)) (ixo36 (.tmp rfl hv388) rfl (i:=(((who % (tracesP (1 + (n % 6)) runs).length):Nat):Int)) (.tmp rfl rfl) (by omega) (by omega) (by omega)) ?_
 refine st (v:=.slice A27 n28 c29) (ld41 (.tmp rfl rfl) ((hs74.rowAt 2 rfl hv388 ((who % (tracesP (1 + (n % 6)) runs).length) * 1) hsub26).cell 0 rfl)) ?_
 refine st (v:=.int .i64 (((at_ % n28):Nat):Int)) (x_move (.tmp rfl rfl)) ?_
 refine st (v:=.int .i64 ((((at_ % n28) + 1):Nat):Int)) (x_add (k:=.i64) (a:=(((at_ % n28):Nat):Int)) (b:=1) (.tmp rfl rfl) .const ((w64 (by omega) (by omega)).trans (by omega))) ?_
 refine st (v:=.slice (cutA A27 c29 ((at_ % n28) + 1) 6) (n28 - ((at_ % n28) + 1)) (c29 - ((at_ % n28) + 1))) (sl_l (d:=kEvent) Tryd.underlying41 inf49 (a:=((((at_ % n28) + 1):Nat):Int)) (.tmp rfl rfl) (.tmp rfl rfl) (by omega) (by omega) (by omega)) ?_
 refine st_m (m_appSl (d:=kEvent) (ys:=(e22.drop ((at_ % n28) + 1))) Tryd.underlying41 inf49 rfl hs74 ok72 hk73 (.tmp rfl rfl) (.tmp rfl rfl) (hl30.drop (k:=((at_ % n28) + 1)) (by omega)) (by omega) (by decide)) ?_
 rintro v389 w390 ⟨cs391,ok392,hk393,hs394⟩
 have hn395:((e22.take (at_ % n28)) ++ (e22.drop ((at_ % n28) + 1))).length = (e22.take (at_ % n28)).length + (n28 - ((at_ % n28) + 1)):=by rw [List.length_append,(hl30.drop (k:=((at_ % n28) + 1)) (by omega)).len]
 obtain ⟨g396,c397,hv398⟩:=ok11.pos (by omega)
 refine st (v:=.pointer (some ⟨g396,((who % (tracesP (1 + (n % 6)) runs).length) * 1),none⟩)) (ixo36 (.tmp rfl hv398) rfl (i:=(((who % (tracesP (1 + (n % 6)) runs).length):Nat):Int)) (.tmp rfl rfl) (by omega) (by omega) (by omega)) ?_
 have hs399:=hs394.p2
 have hs405:=hs399.p1
 have:((e22.take (at_ % n28)) ++ (e22.drop ((at_ % n28) + 1))).length * 64 ≤ 140737488351232:=by omega
 obtain ⟨H406,A407,c408,hle409,hs410,rfl,sp411⟩:=hs405.freezeSl (d:=kEvent) ok392 hk393 this
 have:=sp411.len; have:=sp411.le
 have hl412:(who % (tracesP (1 + (n % 6)) runs).length) * 1 + 1 ≤ cs13.length:=by have h1:=((Kn.rows_mono hk14 hle409)).1; have h2:(kSl kEvent).sz = 1:=rfl; rw [h2] at h1; omega
 have hr404:(kSl kEvent).rep H406 ((e22.take (at_ % n28)) ++ (e22.drop ((at_ % n28) + 1))) [.slice A407 (((e22.take (at_ % n28)) ++ (e22.drop ((at_ % n28) + 1))).length) c408]:=⟨A407,(((e22.take (at_ % n28)) ++ (e22.drop ((at_ % n28) + 1))).length),c408,rfl,sp411⟩
 refine st_m0 (stor41 hs410 hv398 (i:=((who % (tracesP (1 + (n % 6)) runs).length) * 1)) (xs':=splice cs13 ((who % (tracesP (1 + (n % 6)) runs).length) * 1) [.slice A407 (((e22.take (at_ % n28)) ++ (e22.drop ((at_ % n28) + 1))).length) c408]) (.tmp rfl rfl) (u:=.slice A407 (((e22.take (at_ % n28)) ++ (e22.drop ((at_ % n28) + 1))).length) c408) (.tmp rfl rfl) rfl (by omega) one1 rfl) ?_
 rintro w400 hs401
 have hk403:=Kn.rows_set (d:=(kSl kEvent).toKn) (Kn.rows_mono hk14 hle409) (i:=(who % (tracesP (1 + (n % 6)) runs).length)) (by omega) hr404
 have ok402:=ok11.splice (i:=(who % (tracesP (1 + (n % 6)) runs).length) * 1) (vs:=[.slice A407 (((e22.take (at_ % n28)) ++ (e22.drop ((at_ % n28) + 1))).length) c408]) (by simpa using hl412)
 have hn413:((tracesP (1 + (n % 6)) runs).set (who % (tracesP (1 + (n % 6)) runs).length) ((e22.take (at_ % n28)) ++ (e22.drop ((at_ % n28) + 1)))).length = (tracesP (1 + (n % 6)) runs).length:=List.length_set
 have ok414:RowOk (kSl kEvent).sz v10 ((tracesP (1 + (n % 6)) runs).set (who % (tracesP (1 + (n % 6)) runs).length) ((e22.take (at_ % n28)) ++ (e22.drop ((at_ % n28) + 1)))).length (splice cs13 ((who % (tracesP (1 + (n % 6)) runs).length) * 1) [.slice A407 (((e22.take (at_ % n28)) ++ (e22.drop ((at_ % n28) + 1))).length) c408]):=by rw [hn413]; exact ok402
 have hs415:St H406 w400 (row 41 1 v10 (((tracesP (1 + (n % 6)) runs).set (who % (tracesP (1 + (n % 6)) runs).length) ((e22.take (at_ % n28)) ++ (e22.drop ((at_ % n28) + 1)))).length) (splice cs13 ((who % (tracesP (1 + (n % 6)) runs).length) * 1) [.slice A407 (((e22.take (at_ % n28)) ++ (e22.drop ((at_ % n28) + 1))).length) c408])::obj g57 49 [.int .u8 ((e38.Kind:Nat):Int),.int .u64 ((e38.View.ID.N:Nat):Int),.int .i64 e38.View.ID.P,.int .u16 ((e38.View.Set:Nat):Int),.int .i64 e38.From,.slice A53 n54 c55]::L):=by rw [hn413]; exact hs401
 refine c_nil (n_then (c_seq (c_region (st (v:=v10) (x_move (.tmp rfl rfl)) ?_))))
 have:((tracesP (1 + (n % 6)) runs).set (who % (tracesP (1 + (n % 6)) runs).length) ((e22.take (at_ % n28)) ++ (e22.drop ((at_ % n28) + 1)))).length * 24 ≤ 140737488351232:=by omega
 obtain ⟨H416,A417,c418,hle419,hs420,rfl,sp421⟩:=hs415.freezeSl (d:=(kSl kEvent)) ok414 hk403 this
 have:=sp421.len; have:=sp421.le
 refine st_c cb15 .func (evs1 (.tmp rfl rfl)) (judge_spec hs420 ((tracesP (1 + (n % 6)) runs).set (who % (tracesP (1 + (n % 6)) runs).length) ((e22.take (at_ % n28)) ++ (e22.drop ((at_ % n28) + 1)))) sp421 (by omega) (set_small traces_small (by simp only [List.length_append,List.length_take,List.length_drop,List.length_cons,List.length_nil]; omega)) (htab.mono ((hle9.trans hle409).trans hle419))) ?_
 rintro e w422 ⟨H424,hle425,rfl,hs423⟩
 refine ⟨_,rfl,?_⟩
 refine st (v:=.slice A417 (((tracesP (1 + (n % 6)) runs).set (who % (tracesP (1 + (n % 6)) runs).length) ((e22.take (at_ % n28)) ++ (e22.drop ((at_ % n28) + 1)))).length) c418) (x_move (.tmp rfl rfl)) ?_
 refine st_c cb16 .func (evs1 (.tmp rfl rfl)) (rviews_spec hs423 ((tracesP (1 + (n % 6)) runs).set (who % (tracesP (1 + (n % 6)) runs).length) ((e22.take (at_ % n28)) ++ (e22.drop ((at_ % n28) + 1)))) (sp421.mono hle425) ) ?_
 rintro e w426 ⟨H428,hle429,rfl,hs427⟩
 refine ⟨_,rfl,?_⟩
 refine st (v:=.bool ((judgeV ((tracesP (1 + (n % 6)) runs).set (who % (tracesP (1 + (n % 6)) runs).length) ((e22.take (at_ % n28)) ++ (e22.drop ((at_ % n28) + 1))))) == (refV ((tracesP (1 + (n % 6)) runs).set (who % (tracesP (1 + (n % 6)) runs).length) ((e22.take (at_ % n28)) ++ (e22.drop ((at_ % n28) + 1))))))) (x_eqlB Tryd.underlying4 (.tmp rfl rfl) (.tmp rfl rfl)) ?_
 refine st (v:=.bool ((judgeV ((tracesP (1 + (n % 6)) runs).set (who % (tracesP (1 + (n % 6)) runs).length) ((e22.take (at_ % n28)) ++ (e22.drop ((at_ % n28) + 1))))) == (refV ((tracesP (1 + (n % 6)) runs).set (who % (tracesP (1 + (n % 6)) runs).length) ((e22.take (at_ % n28)) ++ (e22.drop ((at_ % n28) + 1))))))) (x_assign (.tmp rfl rfl)) ?_
 refine c_nil (n_then (c_ret (leave_ret (res_one (v:=.bool ((judgeV ((tracesP (1 + (n % 6)) runs).set (who % (tracesP (1 + (n % 6)) runs).length) ((e22.take (at_ % n28)) ++ (e22.drop ((at_ % n28) + 1))))) == (refV ((tracesP (1 + (n % 6)) runs).set (who % (tracesP (1 + (n % 6)) runs).length) ((e22.take (at_ % n28)) ++ (e22.drop ((at_ % n28) + 1))))))) rfl (.mk rfl rfl)) ?_)))
 have hyes:((judgeV ((tracesP (1 + (n % 6)) runs).set (who % (tracesP (1 + (n % 6)) runs).length) ((e22.take (at_ % n28)) ++ (e22.drop ((at_ % n28) + 1))))) == (refV ((tracesP (1 + (n % 6)) runs).set (who % (tracesP (1 + (n % 6)) runs).length) ((e22.take (at_ % n28)) ++ (e22.drop ((at_ % n28) + 1)))))) = true:=(by rw [judge_ref]; simp)
 rw [hyes]
 exact ⟨rfl,(hs427.drop.weaken ((((hle9.trans hle409).trans hle419).trans hle425).trans hle429))⟩
end Go.Proofs.YtnikcgcbkdeeeaaDoor
