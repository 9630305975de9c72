/- Steps of the proofs over the functions of this seat, printed by a program (gen.py) and checked by Lean. -/
import Derived.Test.YtojlmilkdijiaaaDoorW01
import Derived.Test.YtojlmilkdijiaaaDoorW00
import Derived.Test.YtojlmilkdijiaaaDoorW02
import Derived.Test.YtojlmilkdijiaaaDoorW04
set_option linter.unusedVariables false
set_option linter.unusedSimpArgs false
namespace Go.Proofs.YtojlmilkdijiaaaDoor
open Go Go.FM Go.Proofs
attribute [local irreducible] wpList wpQuiet wpS Code.wp Calls
set_option maxHeartbeats 8000000 in
theorem rnode_spec {H:Hp} {w:World} {L:List Res} {g_m:Nat} {m:RS} {vb_m:Value} {cb_m:List Value} {vt_m:Value} {ct_m:List Value} (hs:St H w (obj g_m 56 (rCells m.n vb_m vt_m m.df m.lost)::row 37 3 vb_m m.ps.length cb_m::row 3 1 vt_m m.bi.length ct_m::L)) (ok_m:RSOk H m vb_m cb_m vt_m ct_m) (i:Int) (b_i:IB i):Calls Tryd.prog 47 #[.pointer (some ⟨g_m,0,none⟩),.int .i64 i] w (fun e w' => e = .returned (.bool (m.isIn i))∧St H w' (obj g_m 56 (rCells m.n vb_m vt_m m.df m.lost)::row 37 3 vb_m m.ps.length cb_m::row 3 1 vt_m m.bi.length ct_m::L)):=by
 have hn1_m:=ok_m.n1
 have hn16_m:=ok_m.n16
 have hlen_m:=ok_m.len
 have hmax_m:=ok_m.max
 have hl0_m:=ok_m.l0
 obtain ⟨b_i1,b_i2⟩:=b_i
 refine enter (args:=[.pointer (some ⟨g_m,0,none⟩),.int .i64 i]) (N:=15) Tryd.func47 rfl rfl rfl ?_
 refine c_seq ?_
 refine c_region ?_
 refine st (v:=.bool false) (x_assign .const) ?_
 refine c_nil ?_
 refine n_then ?_
 refine c_seq ?_
 refine c_region ?_
 refine st (v:=.int .i64 i) (x_move (.tmp rfl rfl)) ?_
 refine st (v:=.bool (decide ((0:Int) ≤ i))) (x_geq (k:=.i64) (a:=i) (b:=0) (.tmp rfl rfl) .const) ?_
 refine st (v:=.bool (decide ((0:Int) ≤ i))) (x_move (.tmp rfl rfl)) ?_
 rcases Bool.eq_false_or_eq_true (decide ((0:Int) ≤ i)) with hc1 | hc1
 have hp1:(0:Int) ≤ i:=of_decide_eq_true hc1
 refine g_yes (yl (dj:=7) (b:=true) rfl rfl (congrArg Value.bool hc1)) ?_
 refine st (v:=.int .i64 i) (x_move (.tmp rfl rfl)) ?_
 refine g_yes (yl (dj:=7) (b:=true) rfl rfl (congrArg Value.bool hc1)) ?_
 refine st (v:=.pointer (some ⟨g_m,0,none⟩)) (x_move (.tmp rfl rfl)) ?_
 refine g_yes (yl (dj:=7) (b:=true) rfl rfl (congrArg Value.bool hc1)) ?_
 refine st (v:=.pointer (some ⟨g_m,0,none⟩)) (x_nilCheck (.tmp rfl rfl)) ?_
 refine g_yes (yl (dj:=7) (b:=true) rfl rfl (congrArg Value.bool hc1)) ?_
 refine st (v:=.pointer (some ⟨g_m,0 + 0,none⟩)) (fa56_0 (.tmp rfl rfl)) ?_
 refine g_yes (yl (dj:=7) (b:=true) rfl rfl (congrArg Value.bool hc1)) ?_
 refine st (v:=.int .i64 m.n) (ld3 (.tmp rfl rfl) (hs.cell 0 rfl (0 + 0) rfl)) ?_
 refine g_yes (yl (dj:=7) (b:=true) rfl rfl (congrArg Value.bool hc1)) ?_
 refine st (v:=.bool (decide ((i:Int) < m.n))) (x_lss (k:=.i64) (a:=i) (b:=m.n) (.tmp rfl rfl) (.tmp rfl rfl)) ?_
 refine st (v:=.bool (decide ((i:Int) < m.n))) (x_pick_t (.tmp rfl (congrArg Value.bool hc1)) (.tmp rfl rfl)) ?_
 refine st (v:=.bool (decide ((i:Int) < m.n))) (x_assign (.tmp rfl rfl)) ?_
 refine c_nil ?_
 refine n_then ?_
 refine c_ret ?_
 refine leave_ret (res_one (v:=.bool (decide ((i:Int) < m.n))) rfl (.mk rfl rfl)) ?_
 have hans2:(m.isIn i) = (decide ((i:Int) < m.n)):=by unfold RS.isIn; first | exact decide_eq_false (by omega) | exact decide_eq_decide.2 (by omega)
 rw [hans2]
 exact ⟨rfl,(((hs.pick 2 rfl rfl).pick 2 rfl rfl).pick 2 rfl rfl)⟩
 have hp1:¬ ((0:Int) ≤ i):=of_decide_eq_false hc1
 refine g_no (yl (dj:=7) (b:=false) rfl rfl (congrArg Value.bool hc1)) rfl ?_
 refine g_no (yl (dj:=7) (b:=false) rfl rfl (congrArg Value.bool hc1)) rfl ?_
 refine g_no (yl (dj:=7) (b:=false) rfl rfl (congrArg Value.bool hc1)) rfl ?_
 refine g_no (yl (dj:=7) (b:=false) rfl rfl (congrArg Value.bool hc1)) rfl ?_
 refine g_no (yl (dj:=7) (b:=false) rfl rfl (congrArg Value.bool hc1)) rfl ?_
 refine g_no (yl (dj:=7) (b:=false) rfl rfl (congrArg Value.bool hc1)) rfl ?_
 refine st (v:=.bool false) (x_pick_f (.tmp rfl (congrArg Value.bool hc1)) .const) ?_
 refine st (v:=.bool false) (x_assign (.tmp rfl rfl)) ?_
 refine c_nil ?_
 refine n_then ?_
 refine c_ret ?_
 refine leave_ret (res_one (v:=.bool false) rfl (.mk rfl rfl)) ?_
 have hans3:(m.isIn i) = false:=by unfold RS.isIn; first | exact decide_eq_false (by omega) | exact decide_eq_decide.2 (by omega)
 rw [hans3]
 exact ⟨rfl,(((hs.pick 2 rfl rfl).pick 2 rfl rfl).pick 2 rfl rfl)⟩
set_option maxHeartbeats 8000000 in
theorem rhear_spec {H:Hp} {w:World} {L:List Res} {g_m:Nat} {m:RS} {vb_m:Value} {cb_m:List Value} {vt_m:Value} {ct_m:List Value} (hs:St H w (obj g_m 56 (rCells m.n vb_m vt_m m.df m.lost)::row 37 3 vb_m m.ps.length cb_m::row 3 1 vt_m m.bi.length ct_m::L)) (ok_m:RSOk H m vb_m cb_m vt_m ct_m) (a:Int) (b_a:IB a) (b:Int) (b_b:IB b):Calls Tryd.prog 26 #[.pointer (some ⟨g_m,0,none⟩),.int .i64 a,.int .i64 b] w (fun e w' => e = .returned (.bool (m.hears a b))∧St H w' (obj g_m 56 (rCells m.n vb_m vt_m m.df m.lost)::row 37 3 vb_m m.ps.length cb_m::row 3 1 vt_m m.bi.length ct_m::L)):=by
 have hn1_m:=ok_m.n1
 have hn16_m:=ok_m.n16
 have hlen_m:=ok_m.len
 have hmax_m:=ok_m.max
 have hl0_m:=ok_m.l0
 obtain ⟨b_a1,b_a2⟩:=b_a
 obtain ⟨b_b1,b_b2⟩:=b_b
 refine enter (args:=[.pointer (some ⟨g_m,0,none⟩),.int .i64 a,.int .i64 b]) (N:=26) Tryd.func26 rfl rfl rfl ?_
 refine c_seq ?_
 refine c_region ?_
 refine st (v:=.bool false) (x_assign .const) ?_
 refine c_nil ?_
 refine n_then ?_
 refine c_seq ?_
 refine c_region ?_
 refine st (v:=.pointer (some ⟨g_m,0,none⟩)) (x_move (.tmp rfl rfl)) ?_
 refine st (v:=.int .i64 a) (x_move (.tmp rfl rfl)) ?_
 have hs1:=hs.p2
 have hs2:=hs1.p2
 have hs3:=hs2.p2
 refine st_c cb47 .func (evs2 (.tmp rfl rfl) (.tmp rfl rfl)) (rnode_spec hs3 (m:=m) (RSOk.any ok_m) a ⟨b_a1,b_a2⟩ ) ?_
 rintro e w4 ⟨rfl,hs5⟩
 refine ⟨_,rfl,?_⟩
 refine st (v:=.bool (m.isIn a)) (x_move (.tmp rfl rfl)) ?_
 rcases Bool.eq_false_or_eq_true (m.isIn a) with hc6 | hc6
 refine g_yes (yl (dj:=10) (b:=true) rfl rfl (congrArg Value.bool hc6)) ?_
 refine st (v:=.pointer (some ⟨g_m,0,none⟩)) (x_move (.tmp rfl rfl)) ?_
 refine g_yes (yl (dj:=10) (b:=true) rfl rfl (congrArg Value.bool hc6)) ?_
 refine st (v:=.int .i64 b) (x_move (.tmp rfl rfl)) ?_
 refine g_yes (yl (dj:=10) (b:=true) rfl rfl (congrArg Value.bool hc6)) ?_
 have hs7:=hs5.p2
 have hs8:=hs7.p2
 have hs9:=hs8.p2
 refine st_c cb47 .func (evs2 (.tmp rfl rfl) (.tmp rfl rfl)) (rnode_spec hs9 (m:=m) (RSOk.any ok_m) b ⟨b_b1,b_b2⟩ ) ?_
 rintro e w10 ⟨rfl,hs11⟩
 refine ⟨_,rfl,?_⟩
 refine st (v:=.bool (m.isIn b)) (x_pick_t (.tmp rfl (congrArg Value.bool hc6)) (.tmp rfl rfl)) ?_
 refine st (v:=.bool (m.isIn b)) (x_move (.tmp rfl rfl)) ?_
 rcases Bool.eq_false_or_eq_true (m.isIn b) with hc12 | hc12
 refine g_yes (yl (dj:=15) (b:=true) rfl rfl (congrArg Value.bool hc12)) ?_
 refine st (v:=.pointer (some ⟨g_m,0,none⟩)) (x_move (.tmp rfl rfl)) ?_
 refine g_yes (yl (dj:=15) (b:=true) rfl rfl (congrArg Value.bool hc12)) ?_
 refine st (v:=.int .i64 a) (x_move (.tmp rfl rfl)) ?_
 refine g_yes (yl (dj:=15) (b:=true) rfl rfl (congrArg Value.bool hc12)) ?_
 refine st (v:=.int .i64 b) (x_move (.tmp rfl rfl)) ?_
 refine g_yes (yl (dj:=15) (b:=true) rfl rfl (congrArg Value.bool hc12)) ?_
 refine st (v:=.pointer (some ⟨g_m,0,none⟩)) (x_nilCheck (.tmp rfl rfl)) ?_
 refine g_yes (yl (dj:=15) (b:=true) rfl rfl (congrArg Value.bool hc12)) ?_
 have:=rIn_t hc6
 have:=rIn_t hc12
 skip
 refine st (v:=.pointer (some ⟨g_m,0 + 3,none⟩)) (fa56_3 (.tmp rfl rfl)) ?_
 refine g_yes (yl (dj:=15) (b:=true) rfl rfl (congrArg Value.bool hc12)) ?_
 refine st (v:=.pointer (some ⟨g_m,(3 + a.toNat * 16),none⟩)) (ixo54 (.tmp rfl rfl) (i:=a) (.tmp rfl rfl) (by omega) (by omega) (by omega)) ?_
 refine g_yes (yl (dj:=15) (b:=true) rfl rfl (congrArg Value.bool hc12)) ?_
 refine st (v:=.pointer (some ⟨g_m,(3 + (a.toNat * 16 + b.toNat)),none⟩)) (ixo53 (.tmp rfl rfl) (i:=b) (.tmp rfl rfl) (by omega) (by omega) (by omega)) ?_
 refine g_yes (yl (dj:=15) (b:=true) rfl rfl (congrArg Value.bool hc12)) ?_
 refine st (v:=.bool (m.deaf a b)) (ld4 (.tmp rfl rfl) (hs11.cell 0 rfl (3 + (a.toNat * 16 + b.toNat)) (rn_df ok_m.dl (by omega)))) ?_
 refine g_yes (yl (dj:=15) (b:=true) rfl rfl (congrArg Value.bool hc12)) ?_
 refine st (v:=.bool (!(m.deaf a b))) (x_not (.tmp rfl rfl)) ?_
 refine st (v:=.bool (!(m.deaf a b))) (x_pick_t (.tmp rfl (congrArg Value.bool hc12)) (.tmp rfl rfl)) ?_
 refine st (v:=.bool (!(m.deaf a b))) (x_assign (.tmp rfl rfl)) ?_
 refine c_nil ?_
 refine n_then ?_
 refine c_ret ?_
 refine leave_ret (res_one (v:=.bool (!(m.deaf a b))) rfl (.mk rfl rfl)) ?_
 have hans13:(m.hears a b) = (!(m.deaf a b)):=rhears_is hc6 hc12
 rw [hans13]
 exact ⟨rfl,(((hs11.pick 2 rfl rfl).pick 2 rfl rfl).pick 2 rfl rfl)⟩
 refine g_no (yl (dj:=15) (b:=false) rfl rfl (congrArg Value.bool hc12)) rfl ?_
 refine g_no (yl (dj:=15) (b:=false) rfl rfl (congrArg Value.bool hc12)) rfl ?_
 refine g_no (yl (dj:=15) (b:=false) rfl rfl (congrArg Value.bool hc12)) rfl ?_
 refine g_no (yl (dj:=15) (b:=false) rfl rfl (congrArg Value.bool hc12)) rfl ?_
 refine g_no (yl (dj:=15) (b:=false) rfl rfl (congrArg Value.bool hc12)) rfl ?_
 refine g_no (yl (dj:=15) (b:=false) rfl rfl (congrArg Value.bool hc12)) rfl ?_
 refine g_no (yl (dj:=15) (b:=false) rfl rfl (congrArg Value.bool hc12)) rfl ?_
 refine g_no (yl (dj:=15) (b:=false) rfl rfl (congrArg Value.bool hc12)) rfl ?_
 refine g_no (yl (dj:=15) (b:=false) rfl rfl (congrArg Value.bool hc12)) rfl ?_
 refine st (v:=.bool false) (x_pick_f (.tmp rfl (congrArg Value.bool hc12)) .const) ?_
 refine st (v:=.bool false) (x_assign (.tmp rfl rfl)) ?_
 refine c_nil ?_
 refine n_then ?_
 refine c_ret ?_
 refine leave_ret (res_one (v:=.bool false) rfl (.mk rfl rfl)) ?_
 have hans14:(m.hears a b) = false:=rhears_no2 hc12
 rw [hans14]
 exact ⟨rfl,(((hs11.pick 2 rfl rfl).pick 2 rfl rfl).pick 2 rfl rfl)⟩
 refine g_no (yl (dj:=10) (b:=false) rfl rfl (congrArg Value.bool hc6)) rfl ?_
 refine g_no (yl (dj:=10) (b:=false) rfl rfl (congrArg Value.bool hc6)) rfl ?_
 refine g_no (yl (dj:=10) (b:=false) rfl rfl (congrArg Value.bool hc6)) rfl ?_
 refine st (v:=.bool false) (x_pick_f (.tmp rfl (congrArg Value.bool hc6)) .const) ?_
 refine st (v:=.bool false) (x_move (.tmp rfl rfl)) ?_
 refine g_no (yl (dj:=15) (b:=false) rfl rfl rfl) rfl ?_
 refine g_no (yl (dj:=15) (b:=false) rfl rfl rfl) rfl ?_
 refine g_no (yl (dj:=15) (b:=false) rfl rfl rfl) rfl ?_
 refine g_no (yl (dj:=15) (b:=false) rfl rfl rfl) rfl ?_
 refine g_no (yl (dj:=15) (b:=false) rfl rfl rfl) rfl ?_
 refine g_no (yl (dj:=15) (b:=false) rfl rfl rfl) rfl ?_
 refine g_no (yl (dj:=15) (b:=false) rfl rfl rfl) rfl ?_
 refine g_no (yl (dj:=15) (b:=false) rfl rfl rfl) rfl ?_
 refine g_no (yl (dj:=15) (b:=false) rfl rfl rfl) rfl ?_
 refine st (v:=.bool false) (x_pick_f (.tmp rfl rfl) .const) ?_
 refine st (v:=.bool false) (x_assign (.tmp rfl rfl)) ?_
 refine c_nil ?_
 refine n_then ?_
 refine c_ret ?_
 refine leave_ret (res_one (v:=.bool false) rfl (.mk rfl rfl)) ?_
 have hans15:(m.hears a b) = false:=rhears_no1 hc6
 rw [hans15]
 exact ⟨rfl,(((hs5.pick 2 rfl rfl).pick 2 rfl rfl).pick 2 rfl rfl)⟩
set_option maxHeartbeats 8000000 in
theorem rset_spec {H:Hp} {w:World} {L:List Res} {g_m:Nat} {m:RS} {vb_m:Value} {cb_m:List Value} {vt_m:Value} {ct_m:List Value} (hs:St H w (obj g_m 56 (rCells m.n vb_m vt_m m.df m.lost)::row 37 3 vb_m m.ps.length cb_m::row 3 1 vt_m m.bi.length ct_m::L)) (ok_m:RSOk H m vb_m cb_m vt_m ct_m) (a:Int) (b_a:IB a) (b:Int) (b_b:IB b) (d:Bool):Calls Tryd.prog 46 #[.pointer (some ⟨g_m,0,none⟩),.int .i64 a,.int .i64 b,.bool d] w (fun e w' => ∃ (m':RS) (vb_m':Value) (cb_m':List Value) (vt_m':Value) (ct_m':List Value),e = .returned (.int .i64 (if m.setE a b = true then 0 else 1))∧RSOk H m' vb_m' cb_m' vt_m' ct_m'∧m' = m.setD a b d∧St H w' (obj g_m 56 (rCells m'.n vb_m' vt_m' m'.df m'.lost)::row 37 3 vb_m' m'.ps.length cb_m'::row 3 1 vt_m' m'.bi.length ct_m'::L)):=by
 have hn1_m:=ok_m.n1
 have hn16_m:=ok_m.n16
 have hlen_m:=ok_m.len
 have hmax_m:=ok_m.max
 have hl0_m:=ok_m.l0
 obtain ⟨b_a1,b_a2⟩:=b_a
 obtain ⟨b_b1,b_b2⟩:=b_b
 refine enter (args:=[.pointer (some ⟨g_m,0,none⟩),.int .i64 a,.int .i64 b,.bool d]) (N:=40) Tryd.func46 rfl rfl rfl ?_
 refine c_seq ?_
 refine c_region ?_
 refine st (v:=.int .i64 0) (x_assign .const) ?_
 refine c_nil ?_
 refine n_then ?_
 refine c_seq ?_
 refine c_seq ?_
 refine c_region ?_
 refine st (v:=.pointer (some ⟨g_m,0,none⟩)) (x_move (.tmp rfl rfl)) ?_
 refine st (v:=.int .i64 a) (x_move (.tmp rfl rfl)) ?_
 have hs1:=hs.p2
 have hs2:=hs1.p2
 have hs3:=hs2.p2
 refine st_c cb47 .func (evs2 (.tmp rfl rfl) (.tmp rfl rfl)) (rnode_spec hs3 (m:=m) (RSOk.any ok_m) a ⟨b_a1,b_a2⟩ ) ?_
 rintro e w4 ⟨rfl,hs5⟩
 refine ⟨_,rfl,?_⟩
 refine st (v:=.bool (!(m.isIn a))) (x_not (.tmp rfl rfl)) ?_
 refine st (v:=.bool (!(m.isIn a))) (x_move (.tmp rfl rfl)) ?_
 rcases Bool.eq_false_or_eq_true (m.isIn a) with hc6 | hc6
 refine g_yes (yl (dj:=13) (b:=false) rfl rfl (congrArg Value.bool (by rw [hc6]; rfl))) ?_
 refine st (v:=.pointer (some ⟨g_m,0,none⟩)) (x_move (.tmp rfl rfl)) ?_
 refine g_yes (yl (dj:=13) (b:=false) rfl rfl (congrArg Value.bool (by rw [hc6]; rfl))) ?_
 refine st (v:=.int .i64 b) (x_move (.tmp rfl rfl)) ?_
 refine g_yes (yl (dj:=13) (b:=false) rfl rfl (congrArg Value.bool (by rw [hc6]; rfl))) ?_
 have hs7:=hs5.p2
 have hs8:=hs7.p2
 have hs9:=hs8.p2
 refine st_c cb47 .func (evs2 (.tmp rfl rfl) (.tmp rfl rfl)) (rnode_spec hs9 (m:=m) (RSOk.any ok_m) b ⟨b_b1,b_b2⟩ ) ?_
 rintro e w10 ⟨rfl,hs11⟩
 refine ⟨_,rfl,?_⟩
 refine g_yes (yl (dj:=13) (b:=false) rfl rfl (congrArg Value.bool (by rw [hc6]; rfl))) ?_
 refine st (v:=.bool (!(m.isIn b))) (x_not (.tmp rfl rfl)) ?_
 refine st (v:=.bool (!(m.isIn b))) (x_pick_f (.tmp rfl (congrArg Value.bool (by rw [hc6]; rfl))) (.tmp rfl rfl)) ?_
 refine st (v:=.bool (!(m.isIn b))) (x_move (.tmp rfl rfl)) ?_
 rcases Bool.eq_false_or_eq_true (m.isIn b) with hc12 | hc12
 refine g_yes (yl (dj:=19) (b:=false) rfl rfl (congrArg Value.bool (by rw [hc12]; rfl))) ?_
 refine st (v:=.int .i64 a) (x_move (.tmp rfl rfl)) ?_
 refine g_yes (yl (dj:=19) (b:=false) rfl rfl (congrArg Value.bool (by rw [hc12]; rfl))) ?_
 refine st (v:=.int .i64 b) (x_move (.tmp rfl rfl)) ?_
 refine g_yes (yl (dj:=19) (b:=false) rfl rfl (congrArg Value.bool (by rw [hc12]; rfl))) ?_
 refine st (v:=.bool (decide ((a:Int) = b))) (x_eql (k:=.i64) (a:=a) (b:=b) (.tmp rfl rfl) (.tmp rfl rfl)) ?_
 refine st (v:=.bool (decide ((a:Int) = b))) (x_pick_f (.tmp rfl (congrArg Value.bool (by rw [hc12]; rfl))) (.tmp rfl rfl)) ?_
 refine c_nil ?_
 refine n_then ?_
 rcases Bool.eq_false_or_eq_true (decide ((a:Int) = b)) with hc13 | hc13
 have hp13:(a:Int) = b:=of_decide_eq_true hc13
 refine c_cond_t (t:=true) (.tmp rfl (congrArg Value.bool hc13)) rfl ?_
 refine c_seq ?_
 refine c_region ?_
 refine st (v:=.int .i64 1) (x_assign .const) ?_
 refine c_nil ?_
 refine n_then ?_
 refine c_ret ?_
 refine r_then ?_
 refine leave_ret (res_one (v:=.int .i64 1) rfl (.mk rfl rfl)) ?_
 have hE:m.setE a b = false:=rsetE_f (by first | exact .inl (by assumption) | exact .inr (.inl (by assumption)) | exact .inr (.inr (by omega)))
 rw [if_neg (show ¬ m.setE a b = true by rw [hE]; decide)]
 exact ⟨m,vb_m,cb_m,vt_m,ct_m,rfl,ok_m,(rset_no hE).symm,(((hs11.pick 2 rfl rfl).pick 2 rfl rfl).pick 2 rfl rfl)⟩
 have hp13:¬ ((a:Int) = b):=of_decide_eq_false hc13
 refine c_cond_f (t:=false) (.tmp rfl (congrArg Value.bool hc13)) rfl ?_
 refine c_skip ?_
 refine n_then ?_
 refine c_seq ?_
 refine c_region ?_
 refine st (v:=.pointer (some ⟨g_m,0,none⟩)) (x_move (.tmp rfl rfl)) ?_
 refine st (v:=.int .i64 a) (x_move (.tmp rfl rfl)) ?_
 refine st (v:=.int .i64 b) (x_move (.tmp rfl rfl)) ?_
 refine st (v:=.bool d) (x_move (.tmp rfl rfl)) ?_
 refine st (v:=.pointer (some ⟨g_m,0,none⟩)) (x_nilCheck (.tmp rfl rfl)) ?_
 have:=rIn_t hc6
 have:=rIn_t hc12
 skip
 refine st (v:=.pointer (some ⟨g_m,0 + 3,none⟩)) (fa56_3 (.tmp rfl rfl)) ?_
 refine st (v:=.pointer (some ⟨g_m,(3 + a.toNat * 16),none⟩)) (ixo54 (.tmp rfl rfl) (i:=a) (.tmp rfl rfl) (by omega) (by omega) (by omega)) ?_
 refine st (v:=.pointer (some ⟨g_m,(3 + (a.toNat * 16 + b.toNat)),none⟩)) (ixo53 (.tmp rfl rfl) (i:=b) (.tmp rfl rfl) (by omega) (by omega) (by omega)) ?_
 refine st_m0 (sto4 (cs':=(rCells m.n vb_m vt_m (m.df.set (a.toNat * 16 + b.toNat) d) m.lost)) (i:=3 + (a.toNat * 16 + b.toNat)) hs11 (v:=.bool d) (.tmp rfl rfl) (.tmp rfl rfl) rfl (by rw [rn_len ok_m.dl]; omega) one1 (rn_setD ok_m.dl (by omega))) ?_
 rintro w14 hs15
 refine c_nil ?_
 refine n_then ?_
 refine c_seq ?_
 refine c_region ?_
 refine st (v:=.pointer (some ⟨g_m,0,none⟩)) (x_move (.tmp rfl rfl)) ?_
 refine st (v:=.int .i64 b) (x_move (.tmp rfl rfl)) ?_
 refine st (v:=.int .i64 a) (x_move (.tmp rfl rfl)) ?_
 refine st (v:=.bool d) (x_move (.tmp rfl rfl)) ?_
 refine st (v:=.pointer (some ⟨g_m,0,none⟩)) (x_nilCheck (.tmp rfl rfl)) ?_
 refine st (v:=.pointer (some ⟨g_m,0 + 3,none⟩)) (fa56_3 (.tmp rfl rfl)) ?_
 refine st (v:=.pointer (some ⟨g_m,(3 + b.toNat * 16),none⟩)) (ixo54 (.tmp rfl rfl) (i:=b) (.tmp rfl rfl) (by omega) (by omega) (by omega)) ?_
 refine st (v:=.pointer (some ⟨g_m,(3 + (b.toNat * 16 + a.toNat)),none⟩)) (ixo53 (.tmp rfl rfl) (i:=a) (.tmp rfl rfl) (by omega) (by omega) (by omega)) ?_
 refine st_m0 (sto4 (cs':=(rCells m.n vb_m vt_m ((m.df.set (a.toNat * 16 + b.toNat) d).set (b.toNat * 16 + a.toNat) d) m.lost)) (i:=3 + (b.toNat * 16 + a.toNat)) hs15 (v:=.bool d) (.tmp rfl rfl) (.tmp rfl rfl) rfl (by rw [rn_len (by rw [List.length_set]; exact ok_m.dl)]; omega) one1 (rn_setD (by rw [List.length_set]; exact ok_m.dl) (by omega))) ?_
 rintro w16 hs17
 refine c_nil ?_
 refine n_then ?_
 refine c_seq ?_
 refine c_region ?_
 refine st (v:=.int .i64 0) (x_assign .const) ?_
 refine c_nil ?_
 refine n_then ?_
 refine c_ret ?_
 refine leave_ret (res_one (v:=.int .i64 0) rfl (.mk rfl rfl)) ?_
 have hE:m.setE a b = true:=rsetE_t (by assumption) (by assumption) (by omega)
 rw [if_pos hE]
 have okn18:RSOk H (RS.mk m.n ((m.df.set (a.toNat * 16 + b.toNat) d).set (b.toNat * 16 + a.toNat) d) m.ps m.bi m.lost) vb_m cb_m vt_m ct_m:=⟨hn1_m,hn16_m,(by rw [List.length_set]; exact (by rw [List.length_set]; exact ok_m.dl)),ok_m.okb,ok_m.hkb,ok_m.okt,ok_m.hkt,(show m.bi.length = m.ps.length by first | exact hlen_m | (rw [List.length_eraseIdx,List.length_eraseIdx,hlen_t]) | (simp; omega)),(show m.ps.length ≤ 4096 by first | exact hmax_m | exact Nat.le_trans (List.length_eraseIdx_le ..) hmax_t | (simp; omega)),(show 0 ≤ m.lost by first | exact hl0_m | omega),ok_m.pin⟩
 exact ⟨(RS.mk m.n ((m.df.set (a.toNat * 16 + b.toNat) d).set (b.toNat * 16 + a.toNat) d) m.ps m.bi m.lost),vb_m,cb_m,vt_m,ct_m,rfl,okn18,(rset_yes hE).symm,(((hs17.pick 2 rfl rfl).pick 2 rfl rfl).pick 2 rfl rfl)⟩
 refine g_no (yl (dj:=19) (b:=true) rfl rfl (congrArg Value.bool (by rw [hc12]; rfl))) rfl ?_
 refine g_no (yl (dj:=19) (b:=true) rfl rfl (congrArg Value.bool (by rw [hc12]; rfl))) rfl ?_
 refine g_no (yl (dj:=19) (b:=true) rfl rfl (congrArg Value.bool (by rw [hc12]; rfl))) rfl ?_
 refine st (v:=.bool true) (x_pick_t (.tmp rfl (congrArg Value.bool (by rw [hc12]; rfl))) .const) ?_
 refine c_nil ?_
 refine n_then ?_
 refine c_cond_t (t:=true) (.tmp rfl rfl) rfl ?_
 refine c_seq ?_
 refine c_region ?_
 refine st (v:=.int .i64 1) (x_assign .const) ?_
 refine c_nil ?_
 refine n_then ?_
 refine c_ret ?_
 refine r_then ?_
 refine leave_ret (res_one (v:=.int .i64 1) rfl (.mk rfl rfl)) ?_
 have hE:m.setE a b = false:=rsetE_f (by first | exact .inl (by assumption) | exact .inr (.inl (by assumption)) | exact .inr (.inr (by omega)))
 rw [if_neg (show ¬ m.setE a b = true by rw [hE]; decide)]
 exact ⟨m,vb_m,cb_m,vt_m,ct_m,rfl,ok_m,(rset_no hE).symm,(((hs11.pick 2 rfl rfl).pick 2 rfl rfl).pick 2 rfl rfl)⟩
 refine g_no (yl (dj:=13) (b:=true) rfl rfl (congrArg Value.bool (by rw [hc6]; rfl))) rfl ?_
 refine g_no (yl (dj:=13) (b:=true) rfl rfl (congrArg Value.bool (by rw [hc6]; rfl))) rfl ?_
 refine g_no (yl (dj:=13) (b:=true) rfl rfl (congrArg Value.bool (by rw [hc6]; rfl))) rfl ?_
 refine g_no (yl (dj:=13) (b:=true) rfl rfl (congrArg Value.bool (by rw [hc6]; rfl))) rfl ?_
 refine st (v:=.bool true) (x_pick_t (.tmp rfl (congrArg Value.bool (by rw [hc6]; rfl))) .const) ?_
 refine st (v:=.bool true) (x_move (.tmp rfl rfl)) ?_
 refine g_no (yl (dj:=19) (b:=true) rfl rfl rfl) rfl ?_
 refine g_no (yl (dj:=19) (b:=true) rfl rfl rfl) rfl ?_
 refine g_no (yl (dj:=19) (b:=true) rfl rfl rfl) rfl ?_
 refine st (v:=.bool true) (x_pick_t (.tmp rfl rfl) .const) ?_
 refine c_nil ?_
 refine n_then ?_
 refine c_cond_t (t:=true) (.tmp rfl rfl) rfl ?_
 refine c_seq ?_
 refine c_region ?_
 refine st (v:=.int .i64 1) (x_assign .const) ?_
 refine c_nil ?_
 refine n_then ?_
 refine c_ret ?_
 refine r_then ?_
 refine leave_ret (res_one (v:=.int .i64 1) rfl (.mk rfl rfl)) ?_
 have hE:m.setE a b = false:=rsetE_f (by first | exact .inl (by assumption) | exact .inr (.inl (by assumption)) | exact .inr (.inr (by omega)))
 rw [if_neg (show ¬ m.setE a b = true by rw [hE]; decide)]
 exact ⟨m,vb_m,cb_m,vt_m,ct_m,rfl,ok_m,(rset_no hE).symm,(((hs5.pick 2 rfl rfl).pick 2 rfl rfl).pick 2 rfl rfl)⟩
set_option maxHeartbeats 8000000 in
theorem rclass_spec {H:Hp} {w:World} {L:List Res} {g_m:Nat} {m:RS} {vb_m:Value} {cb_m:List Value} {vt_m:Value} {ct_m:List Value} (hs:St H w (obj g_m 56 (rCells m.n vb_m vt_m m.df m.lost)::row 37 3 vb_m m.ps.length cb_m::row 3 1 vt_m m.bi.length ct_m::L)) (ok_m:RSOk H m vb_m cb_m vt_m ct_m) (i:Int) (b_i:IB i):Calls Tryd.prog 27 #[.pointer (some ⟨g_m,0,none⟩),.int .i64 i] w (fun e w' => e = .returned (.int .u16 (((m.cls i):Nat):Int))∧St H w' (obj g_m 56 (rCells m.n vb_m vt_m m.df m.lost)::row 37 3 vb_m m.ps.length cb_m::row 3 1 vt_m m.bi.length ct_m::L)):=by
 have hn1_m:=ok_m.n1
 have hn16_m:=ok_m.n16
 have hlen_m:=ok_m.len
 have hmax_m:=ok_m.max
 have hl0_m:=ok_m.l0
 obtain ⟨b_i1,b_i2⟩:=b_i
 refine enter (args:=[.pointer (some ⟨g_m,0,none⟩),.int .i64 i]) (N:=48) Tryd.func27 rfl rfl rfl ?_
 refine c_seq ?_
 refine c_region ?_
 refine st (v:=.int .u16 0) (x_assign .const) ?_
 refine c_nil ?_
 refine n_then ?_
 refine c_seq ?_
 refine c_seq ?_
 refine c_region ?_
 refine st (v:=.pointer (some ⟨g_m,0,none⟩)) (x_move (.tmp rfl rfl)) ?_
 refine st (v:=.int .i64 i) (x_move (.tmp rfl rfl)) ?_
 have hs1:=hs.p2
 have hs2:=hs1.p2
 have hs3:=hs2.p2
 refine st_c cb47 .func (evs2 (.tmp rfl rfl) (.tmp rfl rfl)) (rnode_spec hs3 (m:=m) (RSOk.any ok_m) i ⟨b_i1,b_i2⟩ ) ?_
 rintro e w4 ⟨rfl,hs5⟩
 refine ⟨_,rfl,?_⟩
 refine st (v:=.bool (!(m.isIn i))) (x_not (.tmp rfl rfl)) ?_
 refine c_nil ?_
 refine n_then ?_
 rcases Bool.eq_false_or_eq_true (m.isIn i) with hc6 | hc6
 refine c_cond_f (t:=false) (.tmp rfl (congrArg Value.bool (by rw [hc6]; rfl))) rfl ?_
 refine c_skip ?_
 refine n_then ?_
 refine c_seq ?_
 refine c_region ?_
 refine st (v:=.int .u16 0) (x_assign .const) ?_
 refine c_nil ?_
 refine n_then ?_
 refine c_seq ?_
 refine c_region ?_
 refine st (v:=.int .u16 1) (x_assign .const) ?_
 refine c_nil ?_
 refine n_then ?_
 refine c_seq ?_
 refine c_seq ?_
 refine c_region ?_
 refine st (v:=.int .i64 0) (x_assign .const) ?_
 refine c_nil ?_
 refine n_then ?_
 refine c_block ?_
 refine c_loop (fun ρ w mm => ∃ (k:Nat) (s:Nat) (bt:Nat),ρ 0 = .pointer (some ⟨g_m,0,none⟩)∧ρ 1 = .int .i64 i∧ρ 5 = .int .u16 ((s:Nat):Int)∧ρ 6 = .int .u16 ((bt:Nat):Int)∧ρ 7 = .int .i64 ((k:Nat):Int)∧(s < 65536)∧(bt < 65536)∧((k:Int) ≤ m.n)∧(s = m.clsTo i k)∧(bt = 2 ^ k % 65536)∧(m.sameTo i k)∧St H w (obj g_m 56 (rCells m.n vb_m vt_m m.df m.lost)::row 37 3 vb_m m.ps.length cb_m::row 3 1 vt_m m.bi.length ct_m::L)∧mm = m.n.toNat - k) _ ⟨0,0,1,rfl,rfl,rfl,rfl,rfl,(by decide),(by decide),(by omega),rfl,rfl,(fun q h => absurd h (Nat.not_lt_zero _)),(((hs5.pick 2 rfl rfl).pick 2 rfl rfl).pick 2 rfl rfl),rfl⟩ ?_
 rintro ρ w mm ⟨k,s,bt,hρ8,hρ9,hρ10,hρ11,hρ12,b_s,b_bt,hk,hcl,hbt,hsm,hs13,rfl⟩
 refine c_seq ?_
 refine c_seq ?_
 refine c_region ?_
 refine st (v:=.int .i64 ((k:Nat):Int)) (x_move (.tmp rfl hρ12)) ?_
 refine st (v:=.pointer (some ⟨g_m,0,none⟩)) (x_move (.tmp rfl hρ8)) ?_
 refine st (v:=.pointer (some ⟨g_m,0,none⟩)) (x_nilCheck (.tmp rfl rfl)) ?_
 refine st (v:=.pointer (some ⟨g_m,0 + 0,none⟩)) (fa56_0 (.tmp rfl rfl)) ?_
 refine st (v:=.int .i64 m.n) (ld3 (.tmp rfl rfl) (hs13.cell 0 rfl (0 + 0) rfl)) ?_
 refine st (v:=.bool (decide ((((k:Nat):Int):Int) < m.n))) (x_lss (k:=.i64) (a:=((k:Nat):Int)) (b:=m.n) (.tmp rfl rfl) (.tmp rfl rfl)) ?_
 refine c_nil ?_
 refine n_then ?_
 rcases Bool.eq_false_or_eq_true (decide ((((k:Nat):Int):Int) < m.n)) with hc14 | hc14
 have hp14:(((k:Nat):Int):Int) < m.n:=of_decide_eq_true hc14
 refine c_cond_t (t:=true) (.tmp rfl (congrArg Value.bool hc14)) rfl ?_
 refine c_skip ?_
 refine n_then ?_
 refine c_seq ?_
 refine c_block ?_
 refine c_seq ?_
 refine c_seq ?_
 refine c_region ?_
 refine st (v:=.pointer (some ⟨g_m,0,none⟩)) (x_move (.tmp rfl hρ8)) ?_
 refine st (v:=.int .i64 i) (x_move (.tmp rfl hρ9)) ?_
 refine st (v:=.int .i64 ((k:Nat):Int)) (x_move (.tmp rfl hρ12)) ?_
 have hs15:=hs13.p2
 have hs16:=hs15.p2
 have hs17:=hs16.p2
 refine st_c cb26 .func (evs3 (.tmp rfl rfl) (.tmp rfl rfl) (.tmp rfl rfl)) (rhear_spec hs17 (m:=m) (RSOk.any ok_m) i ⟨b_i1,b_i2⟩ ((k:Nat):Int) ⟨by omega,by omega⟩ ) ?_
 rintro e w18 ⟨rfl,hs19⟩
 refine ⟨_,rfl,?_⟩
 refine c_nil ?_
 refine n_then ?_
 rcases Bool.eq_false_or_eq_true (m.hears i ((k:Nat):Int)) with hc20 | hc20
 refine c_cond_t (t:=true) (.tmp rfl (congrArg Value.bool hc20)) rfl ?_
 refine c_seq ?_
 refine c_region ?_
 have hct:=clsTo_lt (s:=m) (i:=i) k
 have hpk:=pow16 (k:=k) (by omega)
 skip
 refine st (v:=.int .u16 ((s:Nat):Int)) (x_move (.tmp rfl hρ10)) ?_
 refine st (v:=.int .u16 ((bt:Nat):Int)) (x_move (.tmp rfl hρ11)) ?_
 have hb21:(s + bt) < 65536:=by omega
 refine st (v:=.int .u16 (((s + bt):Nat):Int)) (x_add (k:=.u16) (a:=((s:Nat):Int)) (b:=((bt:Nat):Int)) (.tmp rfl rfl) (.tmp rfl rfl) (wU rfl (by omega) hb21)) ?_
 refine st (v:=.int .u16 (((s + bt):Nat):Int)) (x_assign (.tmp rfl rfl)) ?_
 refine c_nil ?_
 refine n_then ?_
 refine c_seq ?_
 refine c_region ?_
 refine st (v:=.int .i64 0) (x_assign .const) ?_
 refine c_nil ?_
 refine n_then ?_
 refine c_block ?_
 refine c_loop (fun ρ w mm => ∃ (j:Nat),ρ 0 = .pointer (some ⟨g_m,0,none⟩)∧ρ 1 = .int .i64 i∧ρ 5 = .int .u16 (((s + bt):Nat):Int)∧ρ 6 = .int .u16 ((bt:Nat):Int)∧ρ 7 = .int .i64 ((k:Nat):Int)∧ρ 8 = .int .i64 ((j:Nat):Int)∧((j:Int) ≤ m.n)∧(∀ q:Nat,q < j → m.hears i ((q:Nat):Int) = m.hears ((k:Nat):Int) ((q:Nat):Int))∧St H w (obj g_m 56 (rCells m.n vb_m vt_m m.df m.lost)::row 37 3 vb_m m.ps.length cb_m::row 3 1 vt_m m.bi.length ct_m::L)∧mm = m.n.toNat - j) _ ⟨0,hρ8,hρ9,rfl,hρ11,hρ12,rfl,(by omega),(fun q h => absurd h (Nat.not_lt_zero _)),(((hs19.pick 2 rfl rfl).pick 2 rfl rfl).pick 2 rfl rfl),rfl⟩ ?_
 rintro ρ w mm ⟨j,hρ23,hρ24,hρ25,hρ26,hρ27,hρ28,hj,hj2,hs29,rfl⟩
 refine c_seq ?_
 refine c_seq ?_
 refine c_region ?_
 refine st (v:=.int .i64 ((j:Nat):Int)) (x_move (.tmp rfl hρ28)) ?_
 refine st (v:=.pointer (some ⟨g_m,0,none⟩)) (x_move (.tmp rfl hρ23)) ?_
 refine st (v:=.pointer (some ⟨g_m,0,none⟩)) (x_nilCheck (.tmp rfl rfl)) ?_
 refine st (v:=.pointer (some ⟨g_m,0 + 0,none⟩)) (fa56_0 (.tmp rfl rfl)) ?_
 refine st (v:=.int .i64 m.n) (ld3 (.tmp rfl rfl) (hs29.cell 0 rfl (0 + 0) rfl)) ?_
 refine st (v:=.bool (decide ((((j:Nat):Int):Int) < m.n))) (x_lss (k:=.i64) (a:=((j:Nat):Int)) (b:=m.n) (.tmp rfl rfl) (.tmp rfl rfl)) ?_
 refine c_nil ?_
 refine n_then ?_
 rcases Bool.eq_false_or_eq_true (decide ((((j:Nat):Int):Int) < m.n)) with hc30 | hc30
 have hp30:(((j:Nat):Int):Int) < m.n:=of_decide_eq_true hc30
 refine c_cond_t (t:=true) (.tmp rfl (congrArg Value.bool hc30)) rfl ?_
 refine c_skip ?_
 refine n_then ?_
 refine c_seq ?_
 refine c_block ?_
 refine c_seq ?_
 refine c_region ?_
 refine st (v:=.pointer (some ⟨g_m,0,none⟩)) (x_move (.tmp rfl hρ23)) ?_
 refine st (v:=.int .i64 i) (x_move (.tmp rfl hρ24)) ?_
 refine st (v:=.int .i64 ((j:Nat):Int)) (x_move (.tmp rfl hρ28)) ?_
 have hs31:=hs29.p2
 have hs32:=hs31.p2
 have hs33:=hs32.p2
 refine st_c cb26 .func (evs3 (.tmp rfl rfl) (.tmp rfl rfl) (.tmp rfl rfl)) (rhear_spec hs33 (m:=m) (RSOk.any ok_m) i ⟨b_i1,b_i2⟩ ((j:Nat):Int) ⟨by omega,by omega⟩ ) ?_
 rintro e w34 ⟨rfl,hs35⟩
 refine ⟨_,rfl,?_⟩
 refine st (v:=.pointer (some ⟨g_m,0,none⟩)) (x_move (.tmp rfl hρ23)) ?_
 refine st (v:=.int .i64 ((k:Nat):Int)) (x_move (.tmp rfl hρ27)) ?_
 refine st (v:=.int .i64 ((j:Nat):Int)) (x_move (.tmp rfl hρ28)) ?_
 have hs36:=hs35.p2
 have hs37:=hs36.p2
 have hs38:=hs37.p2
 refine st_c cb26 .func (evs3 (.tmp rfl rfl) (.tmp rfl rfl) (.tmp rfl rfl)) (rhear_spec hs38 (m:=m) (RSOk.any ok_m) ((k:Nat):Int) ⟨by omega,by omega⟩ ((j:Nat):Int) ⟨by omega,by omega⟩ ) ?_
 rintro e w39 ⟨rfl,hs40⟩
 refine ⟨_,rfl,?_⟩
 refine st (v:=.bool ((m.hears i ((j:Nat):Int)) != (m.hears ((k:Nat):Int) ((j:Nat):Int)))) (x_neqB Tryd.underlying4 (.tmp rfl rfl) (.tmp rfl rfl)) ?_
 refine c_nil ?_
 refine n_then ?_
 rcases Bool.eq_false_or_eq_true ((m.hears i ((j:Nat):Int)) != (m.hears ((k:Nat):Int) ((j:Nat):Int))) with hc41 | hc41
 refine c_cond_t (t:=true) (.tmp rfl (congrArg Value.bool hc41)) rfl ?_
 refine c_seq ?_
 refine c_region ?_
 refine st (v:=.int .u16 0) (x_assign .const) ?_
 refine c_nil ?_
 refine n_then ?_
 refine c_ret ?_
 refine r_block ?_
 refine r_then ?_
 refine r_then ?_
 refine r_block ?_
 refine r_then ?_
 refine r_block ?_
 refine r_then ?_
 refine r_then ?_
 refine r_block ?_
 refine r_then ?_
 refine leave_ret (res_one (v:=.int .u16 0) rfl (.mk rfl rfl)) ?_
 have hans42:(m.cls i) = 0:=rcls_no hc6 (q:=k) (j:=j) (by omega) hc20 (by omega) (by simpa using hc41)
 rw [hans42]
 exact ⟨rfl,(((hs40.pick 2 rfl rfl).pick 2 rfl rfl).pick 2 rfl rfl)⟩
 refine c_cond_f (t:=false) (.tmp rfl (congrArg Value.bool hc41)) rfl ?_
 refine c_skip ?_
 refine n_block ?_
 refine n_then ?_
 refine c_region ?_
 refine st (v:=.int .i64 ((j:Nat):Int)) (x_move (.tmp rfl hρ28)) ?_
 refine st (v:=.int .i64 (((j + 1):Nat):Int)) (x_add (k:=.i64) (a:=((j:Nat):Int)) (b:=1) (.tmp rfl rfl) .const ((w64 (by omega) (by omega)).trans (by omega))) ?_
 refine st (v:=.int .i64 (((j + 1):Nat):Int)) (x_assign (.tmp rfl rfl)) ?_
 refine c_nil ?_
 refine n_then ⟨_,_,rfl,?_,(j + 1),hρ23,hρ24,hρ25,hρ26,hρ27,rfl,(by omega),(hears_next hj2 (by simpa using hc41)),(((hs40.pick 2 rfl rfl).pick 2 rfl rfl).pick 2 rfl rfl),rfl⟩
 omega
 have hp30:¬ ((((j:Nat):Int):Int) < m.n):=of_decide_eq_false hc30
 refine c_cond_f (t:=false) (.tmp rfl (congrArg Value.bool hc30)) rfl ?_
 refine c_exit ?_
 refine x_then ?_
 refine x_then ?_
 refine x_here ?_
 refine n_then ?_
 refine c_region ?_
 refine st (v:=.int .u16 ((bt:Nat):Int)) (x_move (.tmp rfl hρ26)) ?_
 refine st (v:=.int .u16 ((((bt * 2) % 65536):Nat):Int)) (x_mul (k:=.u16) (a:=((bt:Nat):Int)) (b:=2) (.tmp rfl rfl) .const (wMulN (m:=bt) (n:=2) _ rfl rfl rfl)) ?_
 refine st (v:=.int .u16 ((((bt * 2) % 65536):Nat):Int)) (x_assign (.tmp rfl rfl)) ?_
 refine c_nil ?_
 refine n_block ?_
 refine n_then ?_
 refine c_region ?_
 refine st (v:=.int .i64 ((k:Nat):Int)) (x_move (.tmp rfl hρ27)) ?_
 refine st (v:=.int .i64 (((k + 1):Nat):Int)) (x_add (k:=.i64) (a:=((k:Nat):Int)) (b:=1) (.tmp rfl rfl) .const ((w64 (by omega) (by omega)).trans (by omega))) ?_
 refine st (v:=.int .i64 (((k + 1):Nat):Int)) (x_assign (.tmp rfl rfl)) ?_
 refine c_nil ?_
 refine n_then ⟨_,_,rfl,?_,(k + 1),(s + bt),((bt * 2) % 65536),hρ23,hρ24,hρ25,rfl,rfl,hb21,(Nat.mod_lt _ (by decide)),(by omega),(by rw [hcl,hbt.trans hpk.1]; exact clsTo_yes hc20),(bit_next hbt),(sameTo_next hsm (fun h9 => fun j hj => hj2 j (by omega))),(((hs29.pick 2 rfl rfl).pick 2 rfl rfl).pick 2 rfl rfl),rfl⟩
 omega
 refine c_cond_f (t:=false) (.tmp rfl (congrArg Value.bool hc20)) rfl ?_
 refine c_skip ?_
 refine n_then ?_
 refine c_region ?_
 refine st (v:=.int .u16 ((bt:Nat):Int)) (x_move (.tmp rfl hρ11)) ?_
 refine st (v:=.int .u16 ((((bt * 2) % 65536):Nat):Int)) (x_mul (k:=.u16) (a:=((bt:Nat):Int)) (b:=2) (.tmp rfl rfl) .const (wMulN (m:=bt) (n:=2) _ rfl rfl rfl)) ?_
 refine st (v:=.int .u16 ((((bt * 2) % 65536):Nat):Int)) (x_assign (.tmp rfl rfl)) ?_
 refine c_nil ?_
 refine n_block ?_
 refine n_then ?_
 refine c_region ?_
 refine st (v:=.int .i64 ((k:Nat):Int)) (x_move (.tmp rfl hρ12)) ?_
 refine st (v:=.int .i64 (((k + 1):Nat):Int)) (x_add (k:=.i64) (a:=((k:Nat):Int)) (b:=1) (.tmp rfl rfl) .const ((w64 (by omega) (by omega)).trans (by omega))) ?_
 refine st (v:=.int .i64 (((k + 1):Nat):Int)) (x_assign (.tmp rfl rfl)) ?_
 refine c_nil ?_
 refine n_then ⟨_,_,rfl,?_,(k + 1),s,((bt * 2) % 65536),hρ8,hρ9,hρ10,rfl,rfl,b_s,(Nat.mod_lt _ (by decide)),(by omega),(by rw [hcl]; exact clsTo_no hc20),(bit_next hbt),(sameTo_next hsm (fun h9 => absurd h9 (by rw [hc20]; decide))),(((hs19.pick 2 rfl rfl).pick 2 rfl rfl).pick 2 rfl rfl),rfl⟩
 omega
 have hp14:¬ ((((k:Nat):Int):Int) < m.n):=of_decide_eq_false hc14
 refine c_cond_f (t:=false) (.tmp rfl (congrArg Value.bool hc14)) rfl ?_
 refine c_exit ?_
 refine x_then ?_
 refine x_then ?_
 refine x_here ?_
 refine n_then ?_
 refine c_seq ?_
 refine c_region ?_
 refine st (v:=.int .u16 ((s:Nat):Int)) (x_move (.tmp rfl hρ10)) ?_
 refine st (v:=.int .u16 ((s:Nat):Int)) (x_assign (.tmp rfl rfl)) ?_
 refine c_nil ?_
 refine n_then ?_
 refine c_ret ?_
 refine leave_ret (res_one (v:=.int .u16 ((s:Nat):Int)) rfl (.mk rfl rfl)) ?_
 have hrc:m.cls i = s:=(rcls_yes hc6 (by omega) hk hsm).trans hcl.symm
 rw [hrc]
 exact ⟨rfl,(((hs13.pick 2 rfl rfl).pick 2 rfl rfl).pick 2 rfl rfl)⟩
 refine c_cond_t (t:=true) (.tmp rfl (congrArg Value.bool (by rw [hc6]; rfl))) rfl ?_
 refine c_seq ?_
 refine c_region ?_
 refine st (v:=.int .u16 0) (x_assign .const) ?_
 refine c_nil ?_
 refine n_then ?_
 refine c_ret ?_
 refine r_then ?_
 refine leave_ret (res_one (v:=.int .u16 0) rfl (.mk rfl rfl)) ?_
 have hans43:(m.cls i) = 0:=cls_no1 hc6
 rw [hans43]
 exact ⟨rfl,(((hs5.pick 2 rfl rfl).pick 2 rfl rfl).pick 2 rfl rfl)⟩
set_option maxHeartbeats 8000000 in
theorem rput_spec {H:Hp} {w:World} {L:List Res} {g_m:Nat} {m:RS} {vb_m:Value} {cb_m:List Value} {vt_m:Value} {ct_m:List Value} (hs:St H w (obj g_m 56 (rCells m.n vb_m vt_m m.df m.lost)::row 37 3 vb_m m.ps.length cb_m::row 3 1 vt_m m.bi.length ct_m::L)) (ok_m:RSOk H m vb_m cb_m vt_m ct_m) (p:GPacket) {k_p:List Value} (h_p:kPacket.rep H p k_p) (k:Int) (b_k:IB k) (hlost:m.lost < 4611686018427387904):Calls Tryd.prog 51 #[.pointer (some ⟨g_m,0,none⟩),.agg k_p.toArray,.int .i64 k] w (fun e w' => ∃ (m':RS) (vb_m':Value) (cb_m':List Value) (vt_m':Value) (ct_m':List Value) (v_:Value),e = .returned (.int .i64 (m.putE p.From p.To))∧RSOk H m' vb_m' cb_m' vt_m' ct_m'∧m' = m.putS p.From p.To p.Bytes k v_∧St H w' (obj g_m 56 (rCells m'.n vb_m' vt_m' m'.df m'.lost)::row 37 3 vb_m' m'.ps.length cb_m'::row 3 1 vt_m' m'.bi.length ct_m'::(m.putR 5 p.From p.To p.Bytes v_) ++ (L))):=by
 have hn1_m:=ok_m.n1
 have hn16_m:=ok_m.n16
 have hlen_m:=ok_m.len
 have hmax_m:=ok_m.max
 have hl0_m:=ok_m.l0
 obtain ⟨A5,n6,c7,rfl,⟨b1,b2⟩,⟨b3,b4⟩,hy8⟩:=h_p
 have:=hy8.len; have:=hy8.bnd; have:=hy8.le
 obtain ⟨b_k1,b_k2⟩:=b_k
 refine enter (args:=[.pointer (some ⟨g_m,0,none⟩),.agg #[.int .i64 p.From,.int .i64 p.To,.slice A5 n6 c7],.int .i64 k]) (N:=62) Tryd.func51 rfl rfl rfl ?_
 refine c_seq ?_
 refine c_region ?_
 refine st_m (m_box (cs:=[.int .i64 p.From,.int .i64 p.To,.slice A5 n6 c7]) hs (v:=.agg #[.int .i64 p.From,.int .i64 p.To,.slice A5 n6 c7]) (.tmp rfl rfl) rfl) ?_
 rintro _ w10 ⟨g9,rfl,hs12⟩
 refine st (v:=.int .i64 0) (x_assign .const) ?_
 refine c_nil ?_
 refine n_then ?_
 refine c_seq ?_
 refine c_seq ?_
 refine c_region ?_
 refine st (v:=.pointer (some ⟨g_m,0,none⟩)) (x_move (.tmp rfl rfl)) ?_
 refine st (v:=.pointer (some ⟨g9,0 + 0,none⟩)) (fa37_0 (.tmp rfl rfl)) ?_
 refine st (v:=.int .i64 p.From) (ld3 (.tmp rfl rfl) (hs12.cell 0 rfl (0 + 0) rfl)) ?_
 have hs13:=hs12.p3
 have hs14:=hs13.p3
 have hs15:=hs14.p3
 refine st_c cb47 .func (evs2 (.tmp rfl rfl) (.tmp rfl rfl)) (rnode_spec hs15 (m:=m) (RSOk.any ok_m) p.From ⟨b1,b2⟩ ) ?_
 rintro e w16 ⟨rfl,hs17⟩
 refine ⟨_,rfl,?_⟩
 refine st (v:=.bool (!(m.isIn p.From))) (x_not (.tmp rfl rfl)) ?_
 refine st (v:=.bool (!(m.isIn p.From))) (x_move (.tmp rfl rfl)) ?_
 rcases Bool.eq_false_or_eq_true (m.isIn p.From) with hc18 | hc18
 refine g_yes (yl (dj:=13) (b:=false) rfl rfl (congrArg Value.bool (by rw [hc18]; rfl))) ?_
 refine st (v:=.pointer (some ⟨g_m,0,none⟩)) (x_move (.tmp rfl rfl)) ?_
 refine g_yes (yl (dj:=13) (b:=false) rfl rfl (congrArg Value.bool (by rw [hc18]; rfl))) ?_
 refine st (v:=.pointer (some ⟨g9,0 + 1,none⟩)) (fa37_1 (.tmp rfl rfl)) ?_
 refine g_yes (yl (dj:=13) (b:=false) rfl rfl (congrArg Value.bool (by rw [hc18]; rfl))) ?_
 refine st (v:=.int .i64 p.To) (ld3 (.tmp rfl rfl) (hs17.cell 3 rfl (0 + 1) rfl)) ?_
 refine g_yes (yl (dj:=13) (b:=false) rfl rfl (congrArg Value.bool (by rw [hc18]; rfl))) ?_
 have hs19:=hs17.p2
 have hs20:=hs19.p2
 have hs21:=hs20.p2
 refine st_c cb47 .func (evs2 (.tmp rfl rfl) (.tmp rfl rfl)) (rnode_spec hs21 (m:=m) (RSOk.any ok_m) p.To ⟨b3,b4⟩ ) ?_
 rintro e w22 ⟨rfl,hs23⟩
 refine ⟨_,rfl,?_⟩
 refine g_yes (yl (dj:=13) (b:=false) rfl rfl (congrArg Value.bool (by rw [hc18]; rfl))) ?_
 refine st (v:=.bool (!(m.isIn p.To))) (x_not (.tmp rfl rfl)) ?_
 refine st (v:=.bool (!(m.isIn p.To))) (x_pick_f (.tmp rfl (congrArg Value.bool (by rw [hc18]; rfl))) (.tmp rfl rfl)) ?_
 refine c_nil ?_
 refine n_then ?_
 rcases Bool.eq_false_or_eq_true (m.isIn p.To) with hc24 | hc24
 refine c_cond_f (t:=false) (.tmp rfl (congrArg Value.bool (by rw [hc24]; rfl))) rfl ?_
 refine c_skip ?_
 refine n_then ?_
 refine c_seq ?_
 refine c_seq ?_
 refine c_region ?_
 refine st (v:=.pointer (some ⟨g_m,0,none⟩)) (x_move (.tmp rfl rfl)) ?_
 refine st (v:=.pointer (some ⟨g_m,0,none⟩)) (x_nilCheck (.tmp rfl rfl)) ?_
 refine st (v:=.pointer (some ⟨g_m,0 + 1,none⟩)) (fa56_1 (.tmp rfl rfl)) ?_
 refine st (v:=vb_m) (ld51 (.tmp rfl rfl) (hs23.cell 0 rfl (0 + 1) rfl)) ?_
 obtain ⟨A25,c26,hv27,hc28⟩:=ok_m.okb.slice
 refine st (v:=.int .i64 ((m.ps.length:Nat):Int)) (x_len (n:=m.ps.length) Tryd.underlying51 (.tmp rfl hv27)) ?_
 refine st (v:=.bool (decide ((4096:Int) ≤ ((m.ps.length:Nat):Int)))) (x_geq (k:=.i64) (a:=((m.ps.length:Nat):Int)) (b:=4096) (.tmp rfl rfl) .const) ?_
 refine c_nil ?_
 refine n_then ?_
 rcases Bool.eq_false_or_eq_true (decide ((4096:Int) ≤ ((m.ps.length:Nat):Int))) with hc29 | hc29
 have hp29:(4096:Int) ≤ ((m.ps.length:Nat):Int):=of_decide_eq_true hc29
 refine c_cond_t (t:=true) (.tmp rfl (congrArg Value.bool hc29)) rfl ?_
 refine c_seq ?_
 refine c_region ?_
 refine st (v:=.pointer (some ⟨g_m,0,none⟩)) (x_move (.tmp rfl rfl)) ?_
 refine st (v:=.pointer (some ⟨g_m,0,none⟩)) (x_nilCheck (.tmp rfl rfl)) ?_
 refine st (v:=.pointer (some ⟨g_m,0 + 259,none⟩)) (fa56_4 (.tmp rfl rfl)) ?_
 refine st (v:=.int .i64 m.lost) (ld3 (.tmp rfl rfl) (hs23.cell 0 rfl (0 + 259) (rn_lost ok_m.dl))) ?_
 refine st (v:=.int .i64 (m.lost + 1)) (x_add (k:=.i64) (a:=m.lost) (b:=1) (.tmp rfl rfl) .const (w64 (by omega) (by omega))) ?_
 refine st (v:=.pointer (some ⟨g_m,0,none⟩)) (x_nilCheck (.tmp rfl rfl)) ?_
 refine st (v:=.pointer (some ⟨g_m,0 + 259,none⟩)) (fa56_4 (.tmp rfl rfl)) ?_
 refine st_m0 (sto3 (cs':=(rCells m.n vb_m vt_m m.df (m.lost + 1))) (i:=0 + 259) hs23 (v:=.int .i64 (m.lost + 1)) (.tmp rfl rfl) (.tmp rfl rfl) rfl (by rw [rn_len ok_m.dl]; omega) one1 (rn_setL ok_m.dl _)) ?_
 rintro w30 hs31
 refine c_nil ?_
 refine n_then ?_
 refine c_seq ?_
 refine c_region ?_
 refine st (v:=.int .i64 7) (x_assign .const) ?_
 refine c_nil ?_
 refine n_then ?_
 refine c_ret ?_
 refine r_then ?_
 refine leave_ret (res_one (v:=.int .i64 7) rfl (.mk rfl rfl)) ?_
 have hp9:m.putE p.From p.To = 7∧m.putS p.From p.To p.Bytes k (.slice none 0 0) = (RS.mk m.n m.df m.ps m.bi (m.lost + 1))∧m.putR 5 p.From p.To p.Bytes (.slice none 0 0) = []:=rput_full hc18 hc24 (by omega)
 have hs32:=((((hs31.pick 3 rfl rfl).drop.pick 2 rfl rfl).pick 2 rfl rfl).pick 2 rfl rfl)
 have hs33:St H _ (obj g_m 56 (rCells m.n vb_m vt_m m.df (m.lost + 1))::row 37 3 vb_m m.ps.length cb_m::row 3 1 vt_m m.bi.length ct_m::(m.putR 5 p.From p.To p.Bytes (.slice none 0 0)) ++ (L)):=St.eqL hs32 (by rw [hp9.2.2]; rfl)
 rw [hp9.1]
 have okn34:RSOk H (RS.mk m.n m.df m.ps m.bi (m.lost + 1)) vb_m cb_m vt_m ct_m:=⟨hn1_m,hn16_m,ok_m.dl,ok_m.okb,ok_m.hkb,ok_m.okt,ok_m.hkt,(show m.bi.length = m.ps.length by first | exact hlen_m | (rw [List.length_eraseIdx,List.length_eraseIdx,hlen_t]) | (simp; omega)),(show m.ps.length ≤ 4096 by first | exact hmax_m | exact Nat.le_trans (List.length_eraseIdx_le ..) hmax_t | (simp; omega)),(show 0 ≤ (m.lost + 1) by first | exact hl0_m | omega),ok_m.pin⟩
 exact ⟨(RS.mk m.n m.df m.ps m.bi (m.lost + 1)),vb_m,cb_m,vt_m,ct_m,(.slice none 0 0),rfl,okn34,hp9.2.1.symm,(((hs33.pick 2 rfl rfl).pick 2 rfl rfl).pick 2 rfl rfl)⟩
 have hp29:¬ ((4096:Int) ≤ ((m.ps.length:Nat):Int)):=of_decide_eq_false hc29
 refine c_cond_f (t:=false) (.tmp rfl (congrArg Value.bool hc29)) rfl ?_
 refine c_skip ?_
 refine n_then ?_
 refine c_seq ?_
 refine c_region ?_
 refine st (v:=.slice none 0 0) (x_assign .const) ?_
 refine c_nil ?_
 refine n_then ?_
 refine c_seq ?_
 refine c_region ?_
 refine st (v:=.slice none 0 0) (x_move (.tmp rfl rfl)) ?_
 refine st (v:=.pointer (some ⟨g9,0 + 2,none⟩)) (fa37_2 (.tmp rfl rfl)) ?_
 refine st (v:=.slice A5 n6 c7) (ld22 (.tmp rfl rfl) (hs23.cell 3 rfl (0 + 2) rfl)) ?_
 refine st_m (m_appNil Tryd.underlying22 inf5 hs23 (.tmp rfl rfl) (.tmp rfl rfl) hy8.toBs (by omega)) ?_
 rintro v35 w36 ⟨ok37,hs38⟩
 obtain ⟨A40,c41,rfl,hc42⟩:=ok37.slice
 have ok44:RowOk 1 (.slice A40 n6 c41) p.Bytes.length (p.Bytes.map encB):=by rw [hy8.len]; exact ok37
 have hs43:St H _ (row 5 1 (.slice A40 n6 c41) p.Bytes.length (p.Bytes.map encB)::obj g_m 56 (rCells m.n vb_m vt_m m.df m.lost)::row 37 3 vb_m m.ps.length cb_m::row 3 1 vt_m m.bi.length ct_m::obj g9 37 [.int .i64 p.From,.int .i64 p.To,.slice A5 n6 c7]::L):=St.eqL hs38 (by rw [hy8.len])
 skip
 refine st (v:=.slice A40 n6 c41) (x_assign (.tmp rfl rfl)) ?_
 refine c_nil ?_
 refine n_then ?_
 refine c_seq ?_
 refine t_region (L:=row 5 1 (.slice A40 n6 c41) p.Bytes.length (p.Bytes.map encB)::obj g_m 56 (rCells m.n vb_m vt_m m.df m.lost)::row 37 3 vb_m m.ps.length cb_m::row 3 1 vt_m m.bi.length ct_m::obj g9 37 [.int .i64 p.From,.int .i64 p.To,.slice A5 n6 c7]::L) (L':=row 5 1 (.slice A40 n6 c41) p.Bytes.length (p.Bytes.map encB)::obj g_m 56 (rCells m.n vb_m vt_m m.df m.lost)::row 37 3 vb_m m.ps.length cb_m::row 3 1 vt_m m.bi.length ct_m::obj g9 37 [.int .i64 p.From,.int .i64 p.To,.slice A5 n6 c7]::L) (Z:=[12,15]) (F:=[0]) (pl:=(.q 0 (.q 1 (.q 2 (.q 3 (.q 4 (.q 5 (.q 6 (.q 7 (.q 8 (.q 9 (.q 10 (.e 11 (.e 12 (.q 13 (.q 14 (.e 15 .done))))))))))))))))) mixed hs43 (fun u hu => hu) (by kernel_rfl) ?_
 intro w45 hs46
 refine t_fr (k:=0) (v:=.pointer (some ⟨g_m,0,none⟩)) rfl (fun w _ => (x_move (.tmp rfl rfl))) ?_
 refine t_st (k:=1) (v:=.pointer (some ⟨g_m,0,none⟩)) rfl rfl (fun w hs => (x_move (.tmp rfl rfl))) ?_
 refine t_st (k:=2) (v:=.pointer (some ⟨g_m,0,none⟩)) rfl rfl (fun w hs => (x_nilCheck (.tmp rfl rfl))) ?_
 refine t_st (k:=3) (v:=.pointer (some ⟨g_m,0 + 1,none⟩)) rfl rfl (fun w hs => (fa56_1 (.tmp rfl rfl))) ?_
 refine t_st (k:=4) (v:=vb_m) rfl rfl (fun w hs => (ld51 (.tmp rfl rfl) (hs.cell 1 rfl (0 + 1) rfl))) ?_
 refine t_st (k:=5) (v:=.pointer (some ⟨g9,0 + 0,none⟩)) rfl rfl (fun w hs => (fa37_0 (.tmp rfl rfl))) ?_
 refine t_st (k:=6) (v:=.int .i64 p.From) rfl rfl (fun w hs => (ld3 (.tmp rfl rfl) (hs.cell 4 rfl (0 + 0) rfl))) ?_
 refine t_st (k:=7) (v:=.pointer (some ⟨g9,0 + 1,none⟩)) rfl rfl (fun w hs => (fa37_1 (.tmp rfl rfl))) ?_
 refine t_st (k:=8) (v:=.int .i64 p.To) rfl rfl (fun w hs => (ld3 (.tmp rfl rfl) (hs.cell 4 rfl (0 + 1) rfl))) ?_
 refine t_st (k:=9) (v:=.slice A40 n6 c41) rfl rfl (fun w hs => (x_move (.tmp rfl rfl))) ?_
 refine t_st (k:=10) (v:=.agg #[.int .i64 p.From,.int .i64 p.To,.slice A40 n6 c41]) rfl rfl (fun w hs => (bl37 (ps:=[(0,.int .i64 p.From),(1,.int .i64 p.To),(2,.slice A40 n6 c41)]) (.cons (.tmp rfl rfl) (.cons (.tmp rfl rfl) (.cons (.tmp rfl rfl) Evp.nil))) rfl)) ?_
 refine t_eff (k:=11) rfl ?_
 refine st_m (m_lit (n:=1) (ps:=[(0,.agg #[.int .i64 p.From,.int .i64 p.To,.slice A40 n6 c41])]) (cs:=[.int .i64 p.From,.int .i64 p.To,.slice A40 n6 c41]) Tryd.underlying51 inf37 (.cons (.tmp rfl rfl) Evp.nil) (by decide) (by decide) rfl rfl hs46) ?_
 rintro _ w48 ⟨g47,rfl,hs50⟩
 refine t_on (S':=fun u => St H u (obj g47 37 [.int .i64 p.From,.int .i64 p.To,.slice A40 n6 c41]::row 5 1 (.slice A40 n6 c41) p.Bytes.length (p.Bytes.map encB)::obj g_m 56 (rCells m.n vb_m vt_m m.df m.lost)::row 37 3 vb_m m.ps.length cb_m::row 3 1 vt_m m.bi.length ct_m::obj g9 37 [.int .i64 p.From,.int .i64 p.To,.slice A5 n6 c7]::L)) (fun u hu => hu.drop) hs50 ?_
 refine t_eff (k:=12) rfl ?_
 have hs51:=hs50.p3
 have hr59:kPk.rep H (Pk.mk p.From p.To (.slice A40 n6 c41) p.Bytes) [.int .i64 p.From,.int .i64 p.To,.slice A40 n6 c41]:=⟨rfl,⟨b1,b2⟩,⟨b3,b4⟩,ok44,hy8.toBs.lt,(show p.Bytes.length ≤ 140737488351232 by omega)⟩
 refine st_m (m_appK (d:=kPk) (ys:=[(Pk.mk p.From p.To (.slice A40 n6 c41) p.Bytes)]) (news:=[.int .i64 p.From,.int .i64 p.To,.slice A40 n6 c41]) Tryd.underlying51 inf37 rfl hs51 ok_m.okb ok_m.hkb (.tmp rfl rfl) (.tmp rfl rfl) (Kn.rows_one hr59) rfl (hs51.at_ 1 rfl 0 rfl) (by have:([(Pk.mk p.From p.To (.slice A40 n6 c41) p.Bytes)]:List Pk).length = 1:=rfl; omega) (by decide)) ?_
 rintro v52 w53 ⟨cs54,ok55,hk56,hs57⟩
 have hn58:(m.ps ++ [(Pk.mk p.From p.To (.slice A40 n6 c41) p.Bytes)]).length = m.ps.length + 1:=by simp
 refine t_new (S':=fun u => St H u (row 37 3 v52 ((m.ps ++ [(Pk.mk p.From p.To (.slice A40 n6 c41) p.Bytes)]).length) cs54::obj g47 37 [.int .i64 p.From,.int .i64 p.To,.slice A40 n6 c41]::row 5 1 (.slice A40 n6 c41) p.Bytes.length (p.Bytes.map encB)::obj g_m 56 (rCells m.n vb_m vt_m m.df m.lost)::row 3 1 vt_m m.bi.length ct_m::obj g9 37 [.int .i64 p.From,.int .i64 p.To,.slice A5 n6 c7]::L)) rfl hs57 ?_
 refine t_st (k:=13) (v:=.pointer (some ⟨g_m,0,none⟩)) rfl rfl (fun w hs => (x_nilCheck (.tmp rfl rfl))) ?_
 refine t_st (k:=14) (v:=.pointer (some ⟨g_m,0 + 1,none⟩)) rfl rfl (fun w hs => (fa56_1 (.tmp rfl rfl))) ?_
 refine t_eff (k:=15) rfl ?_
 obtain ⟨A60,c61,rfl,hc62⟩:=ok55.slice
 have hs63:=hs57.p3
 refine st_m0 (sto51 (cs':=(rCells m.n (.slice A60 ((m.ps ++ [(Pk.mk p.From p.To (.slice A40 n6 c41) p.Bytes)]).length) c61) vt_m m.df m.lost)) (i:=0 + 1) hs63 (v:=.slice A60 ((m.ps ++ [(Pk.mk p.From p.To (.slice A40 n6 c41) p.Bytes)]).length) c61) (.tmp rfl rfl) (.tmp rfl rfl) rfl (by rw [rn_len ok_m.dl]; omega) one1 (rfl)) ?_
 rintro w65 hs66
 refine t_new (S':=fun u => St H u (obj g_m 56 (rCells m.n (.slice A60 ((m.ps ++ [(Pk.mk p.From p.To (.slice A40 n6 c41) p.Bytes)]).length) c61) vt_m m.df m.lost)::row 37 3 (.slice A60 ((m.ps ++ [(Pk.mk p.From p.To (.slice A40 n6 c41) p.Bytes)]).length) c61) ((m.ps ++ [(Pk.mk p.From p.To (.slice A40 n6 c41) p.Bytes)]).length) cs54::obj g47 37 [.int .i64 p.From,.int .i64 p.To,.slice A40 n6 c41]::row 5 1 (.slice A40 n6 c41) p.Bytes.length (p.Bytes.map encB)::row 3 1 vt_m m.bi.length ct_m::obj g9 37 [.int .i64 p.From,.int .i64 p.To,.slice A5 n6 c7]::L)) rfl hs66 ?_
 refine t_nil ?_
 refine n_then ?_
 refine c_seq ?_
 refine c_region ?_
 refine st (v:=.pointer (some ⟨g_m,0,none⟩)) (x_move (.tmp rfl rfl)) ?_
 refine st (v:=.pointer (some ⟨g_m,0,none⟩)) (x_move (.tmp rfl rfl)) ?_
 refine st (v:=.pointer (some ⟨g_m,0,none⟩)) (x_nilCheck (.tmp rfl rfl)) ?_
 refine st (v:=.pointer (some ⟨g_m,0 + 2,none⟩)) (fa56_2 (.tmp rfl rfl)) ?_
 refine st (v:=vt_m) (ld52 (.tmp rfl rfl) (hs66.cell 0 rfl (0 + 2) rfl)) ?_
 refine st (v:=.int .i64 k) (x_move (.tmp rfl rfl)) ?_
 refine st_m (m_lit (n:=1) (ps:=[(0,.int .i64 k)]) (cs:=[.int .i64 k]) Tryd.underlying52 inf3 (.cons (.tmp rfl rfl) Evp.nil) (by decide) (by decide) rfl rfl hs66) ?_
 rintro _ w68 ⟨g67,rfl,hs70⟩
 have hs71:=hs70.p5
 have hr79:kI.rep H k [.int .i64 k]:=⟨rfl,⟨b_k1,b_k2⟩⟩
 refine st_m (m_appK (d:=kI) (ys:=[k]) (news:=[.int .i64 k]) Tryd.underlying52 inf3 rfl hs71 ok_m.okt ok_m.hkt (.tmp rfl rfl) (.tmp rfl rfl) (Kn.rows_one hr79) rfl (hs71.at_ 1 rfl 0 rfl) (by have:([k]:List Int).length = 1:=rfl; omega) (by decide)) ?_
 rintro v72 w73 ⟨cs74,ok75,hk76,hs77⟩
 have hn78:(m.bi ++ [k]).length = m.bi.length + 1:=by simp
 refine st (v:=.pointer (some ⟨g_m,0,none⟩)) (x_nilCheck (.tmp rfl rfl)) ?_
 refine st (v:=.pointer (some ⟨g_m,0 + 2,none⟩)) (fa56_2 (.tmp rfl rfl)) ?_
 obtain ⟨A80,c81,rfl,hc82⟩:=ok75.slice
 have hs83:=hs77.p2
 refine st_m0 (sto52 (cs':=(rCells m.n (.slice A60 ((m.ps ++ [(Pk.mk p.From p.To (.slice A40 n6 c41) p.Bytes)]).length) c61) (.slice A80 ((m.bi ++ [k]).length) c81) m.df m.lost)) (i:=0 + 2) hs83 (v:=.slice A80 ((m.bi ++ [k]).length) c81) (.tmp rfl rfl) (.tmp rfl rfl) rfl (by rw [rn_len ok_m.dl]; omega) one1 (rfl)) ?_
 rintro w84 hs85
 refine c_nil ?_
 refine n_then ?_
 refine c_seq ?_
 refine c_region ?_
 refine st (v:=.int .i64 0) (x_assign .const) ?_
 refine c_nil ?_
 refine n_then ?_
 refine c_ret ?_
 refine leave_ret (res_one (v:=.int .i64 0) rfl (.mk rfl rfl)) ?_
 have hp9:m.putE p.From p.To = 0∧m.putS p.From p.To p.Bytes k (.slice A40 n6 c41) = (RS.mk m.n m.df (m.ps ++ [(Pk.mk p.From p.To (.slice A40 n6 c41) p.Bytes)]) (m.bi ++ [k]) m.lost)∧m.putR 5 p.From p.To p.Bytes (.slice A40 n6 c41) = [row 5 1 (.slice A40 n6 c41) p.Bytes.length (p.Bytes.map encB)]:=rput_ok hc18 hc24 (by omega)
 have hs86:=(((((((hs85.pick 2 rfl rfl).drop.pick 3 rfl rfl).drop.pick 4 rfl rfl).drop.pick 3 rfl rfl).pick 2 rfl rfl).pick 3 rfl rfl).pick 3 rfl rfl)
 have hs87:St H _ (obj g_m 56 (rCells m.n (.slice A60 ((m.ps ++ [(Pk.mk p.From p.To (.slice A40 n6 c41) p.Bytes)]).length) c61) (.slice A80 ((m.bi ++ [k]).length) c81) m.df m.lost)::row 37 3 (.slice A60 ((m.ps ++ [(Pk.mk p.From p.To (.slice A40 n6 c41) p.Bytes)]).length) c61) ((m.ps ++ [(Pk.mk p.From p.To (.slice A40 n6 c41) p.Bytes)]).length) cs54::row 3 1 (.slice A80 ((m.bi ++ [k]).length) c81) ((m.bi ++ [k]).length) cs74::(m.putR 5 p.From p.To p.Bytes (.slice A40 n6 c41)) ++ (L)):=St.eqL hs86 (by rw [hp9.2.2]; rfl)
 rw [hp9.1]
 have okn88:RSOk H (RS.mk m.n m.df (m.ps ++ [(Pk.mk p.From p.To (.slice A40 n6 c41) p.Bytes)]) (m.bi ++ [k]) m.lost) (.slice A60 ((m.ps ++ [(Pk.mk p.From p.To (.slice A40 n6 c41) p.Bytes)]).length) c61) cs54 (.slice A80 ((m.bi ++ [k]).length) c81) cs74:=⟨hn1_m,hn16_m,ok_m.dl,ok55,hk56,ok75,hk76,(show (m.bi ++ [k]).length = (m.ps ++ [(Pk.mk p.From p.To (.slice A40 n6 c41) p.Bytes)]).length by first | exact hlen_m | (rw [List.length_eraseIdx,List.length_eraseIdx,hlen_t]) | (simp; omega)),(show (m.ps ++ [(Pk.mk p.From p.To (.slice A40 n6 c41) p.Bytes)]).length ≤ 4096 by first | exact hmax_m | exact Nat.le_trans (List.length_eraseIdx_le ..) hmax_t | (simp; omega)),(show 0 ≤ m.lost by first | exact hl0_m | omega),(rpin_snoc ok_m.pin hc18 hc24)⟩
 exact ⟨(RS.mk m.n m.df (m.ps ++ [(Pk.mk p.From p.To (.slice A40 n6 c41) p.Bytes)]) (m.bi ++ [k]) m.lost),(.slice A60 ((m.ps ++ [(Pk.mk p.From p.To (.slice A40 n6 c41) p.Bytes)]).length) c61),cs54,(.slice A80 ((m.bi ++ [k]).length) c81),cs74,(.slice A40 n6 c41),rfl,okn88,hp9.2.1.symm,(((hs87.pick 2 rfl rfl).pick 2 rfl rfl).pick 2 rfl rfl)⟩
 refine c_cond_t (t:=true) (.tmp rfl (congrArg Value.bool (by rw [hc24]; rfl))) rfl ?_
 refine c_seq ?_
 refine c_region ?_
 refine st (v:=.int .i64 1) (x_assign .const) ?_
 refine c_nil ?_
 refine n_then ?_
 refine c_ret ?_
 refine r_then ?_
 refine leave_ret (res_one (v:=.int .i64 1) rfl (.mk rfl rfl)) ?_
 have hp9:m.putE p.From p.To = 1∧m.putS p.From p.To p.Bytes k (.slice none 0 0) = m∧m.putR 5 p.From p.To p.Bytes (.slice none 0 0) = []:=rput_no (.inr hc24)
 have hs89:=((((hs23.pick 3 rfl rfl).drop.pick 2 rfl rfl).pick 2 rfl rfl).pick 2 rfl rfl)
 have hs90:St H _ (obj g_m 56 (rCells m.n vb_m vt_m m.df m.lost)::row 37 3 vb_m m.ps.length cb_m::row 3 1 vt_m m.bi.length ct_m::(m.putR 5 p.From p.To p.Bytes (.slice none 0 0)) ++ (L)):=St.eqL hs89 (by rw [hp9.2.2]; rfl)
 rw [hp9.1]
 exact ⟨m,vb_m,cb_m,vt_m,ct_m,(.slice none 0 0),rfl,ok_m,hp9.2.1.symm,(((hs90.pick 2 rfl rfl).pick 2 rfl rfl).pick 2 rfl rfl)⟩
 refine g_no (yl (dj:=13) (b:=true) rfl rfl (congrArg Value.bool (by rw [hc18]; rfl))) rfl ?_
 refine g_no (yl (dj:=13) (b:=true) rfl rfl (congrArg Value.bool (by rw [hc18]; rfl))) rfl ?_
 refine g_no (yl (dj:=13) (b:=true) rfl rfl (congrArg Value.bool (by rw [hc18]; rfl))) rfl ?_
 refine g_no (yl (dj:=13) (b:=true) rfl rfl (congrArg Value.bool (by rw [hc18]; rfl))) rfl ?_
 refine g_no (yl (dj:=13) (b:=true) rfl rfl (congrArg Value.bool (by rw [hc18]; rfl))) rfl ?_
 refine st (v:=.bool true) (x_pick_t (.tmp rfl (congrArg Value.bool (by rw [hc18]; rfl))) .const) ?_
 refine c_nil ?_
 refine n_then ?_
 refine c_cond_t (t:=true) (.tmp rfl rfl) rfl ?_
 refine c_seq ?_
 refine c_region ?_
 refine st (v:=.int .i64 1) (x_assign .const) ?_
 refine c_nil ?_
 refine n_then ?_
 refine c_ret ?_
 refine r_then ?_
 refine leave_ret (res_one (v:=.int .i64 1) rfl (.mk rfl rfl)) ?_
 have hp9:m.putE p.From p.To = 1∧m.putS p.From p.To p.Bytes k (.slice none 0 0) = m∧m.putR 5 p.From p.To p.Bytes (.slice none 0 0) = []:=rput_no (.inl hc18)
 have hs91:=((((hs17.pick 3 rfl rfl).drop.pick 2 rfl rfl).pick 2 rfl rfl).pick 2 rfl rfl)
 have hs92:St H _ (obj g_m 56 (rCells m.n vb_m vt_m m.df m.lost)::row 37 3 vb_m m.ps.length cb_m::row 3 1 vt_m m.bi.length ct_m::(m.putR 5 p.From p.To p.Bytes (.slice none 0 0)) ++ (L)):=St.eqL hs91 (by rw [hp9.2.2]; rfl)
 rw [hp9.1]
 exact ⟨m,vb_m,cb_m,vt_m,ct_m,(.slice none 0 0),rfl,ok_m,hp9.2.1.symm,(((hs92.pick 2 rfl rfl).pick 2 rfl rfl).pick 2 rfl rfl)⟩
set_option maxHeartbeats 8000000 in
theorem rPut_spec {H:Hp} {w:World} {L:List Res} {g_m:Nat} {m:RS} {vb_m:Value} {cb_m:List Value} {vt_m:Value} {ct_m:List Value} (hs:St H w (obj g_m 56 (rCells m.n vb_m vt_m m.df m.lost)::row 37 3 vb_m m.ps.length cb_m::row 3 1 vt_m m.bi.length ct_m::L)) (ok_m:RSOk H m vb_m cb_m vt_m ct_m) (p:GPacket) {k_p:List Value} (h_p:kPacket.rep H p k_p) (hlost:m.lost < 4611686018427387904):Calls Tryd.prog 40 #[.pointer (some ⟨g_m,0,none⟩),.agg k_p.toArray] w (fun e w' => ∃ (m':RS) (vb_m':Value) (cb_m':List Value) (vt_m':Value) (ct_m':List Value) (v_:Value),e = .returned (.int .i64 (m.putE p.From p.To))∧RSOk H m' vb_m' cb_m' vt_m' ct_m'∧m' = m.putS p.From p.To p.Bytes 0 v_∧St H w' (obj g_m 56 (rCells m'.n vb_m' vt_m' m'.df m'.lost)::row 37 3 vb_m' m'.ps.length cb_m'::row 3 1 vt_m' m'.bi.length ct_m'::(m.putR 5 p.From p.To p.Bytes v_) ++ (L))):=by
 have hn1_m:=ok_m.n1
 have hn16_m:=ok_m.n16
 have hlen_m:=ok_m.len
 have hmax_m:=ok_m.max
 have hl0_m:=ok_m.l0
 obtain ⟨A5,n6,c7,rfl,⟨b1,b2⟩,⟨b3,b4⟩,hy8⟩:=h_p
 have:=hy8.len; have:=hy8.bnd; have:=hy8.le
 refine enter (args:=[.pointer (some ⟨g_m,0,none⟩),.agg #[.int .i64 p.From,.int .i64 p.To,.slice A5 n6 c7]]) (N:=8) Tryd.func40 rfl rfl rfl ?_
 refine c_seq ?_
 refine c_region ?_
 refine st_m (m_box (cs:=[.int .i64 p.From,.int .i64 p.To,.slice A5 n6 c7]) hs (v:=.agg #[.int .i64 p.From,.int .i64 p.To,.slice A5 n6 c7]) (.tmp rfl rfl) rfl) ?_
 rintro _ w10 ⟨g9,rfl,hs12⟩
 refine st (v:=.int .i64 0) (x_assign .const) ?_
 refine c_nil ?_
 refine n_then ?_
 refine c_seq ?_
 refine c_region ?_
 refine st (v:=.pointer (some ⟨g_m,0,none⟩)) (x_move (.tmp rfl rfl)) ?_
 refine st (v:=.agg #[.int .i64 p.From,.int .i64 p.To,.slice A5 n6 c7]) (ld37 (cs:=[.int .i64 p.From,.int .i64 p.To,.slice A5 n6 c7]) (.tmp rfl rfl) (hs12.at_ 0 rfl (0) rfl) rfl) ?_
 have hs13:=hs12.p3
 have hs14:=hs13.p3
 have hs15:=hs14.p3
 have hr16:kPacket.rep H p [.int .i64 p.From,.int .i64 p.To,.slice A5 n6 c7]:=⟨A5,n6,c7,rfl,⟨b1,b2⟩,⟨b3,b4⟩,hy8⟩
 refine st_c cb51 .func (evs3 (.tmp rfl rfl) (.tmp rfl rfl) .const) (rput_spec hs15 (m:=m) (RSOk.any ok_m) p hr16 0 ⟨by omega,by omega⟩ hlost) ?_
 rintro e w17 ⟨nr19,vb20,cb21,vt22,ct23,v_26,rfl,ok24,hnr25,hs18⟩
 refine ⟨_,rfl,?_⟩
 have hn1_m:=ok24.n1
 have hn16_m:=ok24.n16
 have hlen_m:=ok24.len
 have hmax_m:=ok24.max
 have hl0_m:=ok24.l0
 have hs27:St H _ (obj g_m 56 (rCells nr19.n vb20 vt22 nr19.df nr19.lost)::row 37 3 vb20 nr19.ps.length cb21::row 3 1 vt22 nr19.bi.length ct23::obj g9 37 [.int .i64 p.From,.int .i64 p.To,.slice A5 n6 c7]::(m.putR 5 p.From p.To p.Bytes v_26) ++ (L)):=St.xDown [obj g_m 56 (rCells nr19.n vb20 vt22 nr19.df nr19.lost),row 37 3 vb20 nr19.ps.length cb21,row 3 1 vt22 nr19.bi.length ct23] [obj g9 37 [.int .i64 p.From,.int .i64 p.To,.slice A5 n6 c7]] hs18
 refine st (v:=.int .i64 (m.putE p.From p.To)) (x_assign (.tmp rfl rfl)) ?_
 refine c_nil ?_
 refine n_then ?_
 refine c_ret ?_
 refine leave_ret (res_one (v:=.int .i64 (m.putE p.From p.To)) rfl (.mk rfl rfl)) ?_
 exact ⟨nr19,vb20,cb21,vt22,ct23,v_26,rfl,ok24,hnr25,((((hs27.pick 3 rfl rfl).drop.pick 2 rfl rfl).pick 2 rfl rfl).pick 2 rfl rfl)⟩
set_option maxHeartbeats 8000000 in
theorem rout_spec {H:Hp} {w:World} {L:List Res} {g_m:Nat} {m:RS} {vb_m:Value} {cb_m:List Value} {vt_m:Value} {ct_m:List Value} (hs:St H w (obj g_m 56 (rCells m.n vb_m vt_m m.df m.lost)::row 37 3 vb_m m.ps.length cb_m::row 3 1 vt_m m.bi.length ct_m::L)) (ok_m:RSOk H m vb_m cb_m vt_m ct_m) (i:Int) (b_i:IB i) (hin:m.inn i):Calls Tryd.prog 52 #[.pointer (some ⟨g_m,0,none⟩),.int .i64 i] w (fun e w' => ∃ (H':Hp) (m':RS) (vb_m':Value) (cb_m':List Value) (vt_m':Value) (ct_m':List Value),H.le H'∧e = .returned (.tuple #[])∧RSOk H' m' vb_m' cb_m' vt_m' ct_m'∧m' = m.outS i.toNat∧St H' w' (obj g_m 56 (rCells m'.n vb_m' vt_m' m'.df m'.lost)::row 37 3 vb_m' m'.ps.length cb_m'::row 3 1 vt_m' m'.bi.length ct_m'::L)):=by
 have hn1_m:=ok_m.n1
 have hn16_m:=ok_m.n16
 have hlen_m:=ok_m.len
 have hmax_m:=ok_m.max
 have hl0_m:=ok_m.l0
 obtain ⟨b_i1,b_i2⟩:=b_i
 refine enter (args:=[.pointer (some ⟨g_m,0,none⟩),.int .i64 i]) (N:=46) Tryd.func52 rfl rfl rfl ?_
 obtain ⟨k,hk⟩:∃ k:Nat,i = (k:Int):=⟨i.toNat,by have:=hin.1; omega⟩
 have hkl:k < m.ps.length:=by have:=hin.2; omega
 refine c_seq ?_
 refine c_region ?_
 refine st (v:=.slice none 0 0) (x_assign .const) ?_
 refine c_nil ?_
 refine n_then ?_
 refine c_seq ?_
 refine c_region ?_
 refine st (v:=.slice none 0 0) (x_move (.tmp rfl rfl)) ?_
 refine st (v:=.pointer (some ⟨g_m,0,none⟩)) (x_move (.tmp rfl rfl)) ?_
 refine st (v:=.pointer (some ⟨g_m,0,none⟩)) (x_nilCheck (.tmp rfl rfl)) ?_
 refine st (v:=.pointer (some ⟨g_m,0 + 1,none⟩)) (fa56_1 (.tmp rfl rfl)) ?_
 refine st (v:=vb_m) (ld51 (.tmp rfl rfl) (hs.cell 0 rfl (0 + 1) rfl)) ?_
 refine st (v:=.int .i64 ((k:Nat):Int)) (x_move (.tmp rfl (congrArg (Value.int .i64) hk))) ?_
 have hs1:=hs.p1
 have:m.ps.length * 40 ≤ 140737488351232:=by omega
 obtain ⟨H2,A3,c4,hle5,hs6,rfl,sp7⟩:=hs1.freezeSl (d:=kPk) ok_m.okb ok_m.hkb this
 have:=sp7.len; have:=sp7.le
 have hs6:St H2 _ (obj g_m 56 (rCells m.n (.slice A3 m.ps.length c4) vt_m m.df m.lost)::row 3 1 vt_m m.bi.length ct_m::L):=hs6
 refine st (v:=.slice A3 k c4) (sl_h (d:=kPk) Tryd.underlying51 inf37 (a:=((k:Nat):Int)) (.tmp rfl rfl) (.tmp rfl rfl) (by omega) (by omega)) ?_
 have hs8:St H2 _ (row 37 3 (.slice none 0 0) (([]:List Pk).length) []::obj g_m 56 (rCells m.n (.slice A3 m.ps.length c4) vt_m m.df m.lost)::row 3 1 vt_m m.bi.length ct_m::L):=hs6.krowNil 37 kPk
 have:([]:List Pk).length = 0:=rfl
 refine st_m (m_appSl (d:=kPk) (ys:=(m.ps.take k)) Tryd.underlying51 inf37 rfl hs8 (RowOk.knil kPk) (Kn.rows_nil _ _) (.tmp rfl rfl) (.tmp rfl rfl) (sp7.take (k:=k) (by omega)) (by omega) (by decide)) ?_
 rintro v10 w11 ⟨cs12,ok13,hk14,hs15⟩
 have hn16:(([]:List Pk) ++ (m.ps.take k)).length = ([]:List Pk).length + k:=by rw [List.length_append,(sp7.take (k:=k) (by omega)).len]
 have hn16:(m.ps.take k).length = k:=(sp7.take (k:=k) (by omega)).len
 have ok13:RowOk kPk.sz v10 (m.ps.take k).length cs12:=ok13
 have hk14:kPk.toKn.rows H2 (m.ps.take k) cs12:=hk14
 have hs15:St H2 _ (row 37 3 v10 ((m.ps.take k).length) cs12::obj g_m 56 (rCells m.n (.slice A3 m.ps.length c4) vt_m m.df m.lost)::row 3 1 vt_m m.bi.length ct_m::L):=hs15
 refine st (v:=v10) (x_assign (.tmp rfl rfl)) ?_
 refine c_nil ?_
 refine n_then ?_
 refine c_seq ?_
 refine c_region ?_
 refine st (v:=.pointer (some ⟨g_m,0,none⟩)) (x_move (.tmp rfl rfl)) ?_
 refine st (v:=v10) (x_move (.tmp rfl rfl)) ?_
 refine st (v:=.pointer (some ⟨g_m,0,none⟩)) (x_move (.tmp rfl rfl)) ?_
 refine st (v:=.pointer (some ⟨g_m,0,none⟩)) (x_nilCheck (.tmp rfl rfl)) ?_
 refine st (v:=.pointer (some ⟨g_m,0 + 1,none⟩)) (fa56_1 (.tmp rfl rfl)) ?_
 refine st (v:=.slice A3 m.ps.length c4) (ld51 (.tmp rfl rfl) (hs15.cell 1 rfl (0 + 1) rfl)) ?_
 refine st (v:=.int .i64 ((k:Nat):Int)) (x_move (.tmp rfl (congrArg (Value.int .i64) hk))) ?_
 refine st (v:=.int .i64 (((k + 1):Nat):Int)) (x_add (k:=.i64) (a:=((k:Nat):Int)) (b:=1) (.tmp rfl rfl) .const ((w64 (by omega) (by omega)).trans (by omega))) ?_
 refine st (v:=.slice (cutA A3 c4 (k + 1) 3) (m.ps.length - (k + 1)) (c4 - (k + 1))) (sl_l (d:=kPk) Tryd.underlying51 inf37 (a:=(((k + 1):Nat):Int)) (.tmp rfl rfl) (.tmp rfl rfl) (by omega) (by omega) (by omega)) ?_
 refine st_m (m_appSl (d:=kPk) (ys:=(m.ps.drop (k + 1))) Tryd.underlying51 inf37 rfl hs15 ok13 hk14 (.tmp rfl rfl) (.tmp rfl rfl) (sp7.drop (k:=(k + 1)) (by omega)) (by omega) (by decide)) ?_
 rintro v17 w18 ⟨cs19,ok20,hk21,hs22⟩
 have hn23:((m.ps.take k) ++ (m.ps.drop (k + 1))).length = (m.ps.take k).length + (m.ps.length - (k + 1)):=by rw [List.length_append,(sp7.drop (k:=(k + 1)) (by omega)).len]
 refine st (v:=.pointer (some ⟨g_m,0,none⟩)) (x_nilCheck (.tmp rfl rfl)) ?_
 refine st (v:=.pointer (some ⟨g_m,0 + 1,none⟩)) (fa56_1 (.tmp rfl rfl)) ?_
 obtain ⟨A24,c25,rfl,hc26⟩:=ok20.slice
 have hs27:=hs22.p1
 refine st_m0 (sto51 (cs':=(rCells m.n (.slice A24 (((m.ps.take k) ++ (m.ps.drop (k + 1))).length) c25) vt_m m.df m.lost)) (i:=0 + 1) hs27 (v:=.slice A24 (((m.ps.take k) ++ (m.ps.drop (k + 1))).length) c25) (.tmp rfl rfl) (.tmp rfl rfl) rfl (by rw [rn_len ok_m.dl]; omega) one1 (rfl)) ?_
 rintro w28 hs29
 refine c_nil ?_
 refine n_then ?_
 refine c_seq ?_
 refine c_region ?_
 refine st (v:=.slice none 0 0) (x_assign .const) ?_
 refine c_nil ?_
 refine n_then ?_
 refine c_seq ?_
 refine c_region ?_
 refine st (v:=.slice none 0 0) (x_move (.tmp rfl rfl)) ?_
 refine st (v:=.pointer (some ⟨g_m,0,none⟩)) (x_move (.tmp rfl rfl)) ?_
 refine st (v:=.pointer (some ⟨g_m,0,none⟩)) (x_nilCheck (.tmp rfl rfl)) ?_
 refine st (v:=.pointer (some ⟨g_m,0 + 2,none⟩)) (fa56_2 (.tmp rfl rfl)) ?_
 refine st (v:=vt_m) (ld52 (.tmp rfl rfl) (hs29.cell 0 rfl (0 + 2) rfl)) ?_
 refine st (v:=.int .i64 ((k:Nat):Int)) (x_move (.tmp rfl (congrArg (Value.int .i64) hk))) ?_
 have hs30:=hs29.p2
 have:m.bi.length * 8 ≤ 140737488351232:=by omega
 obtain ⟨H31,A32,c33,hle34,hs35,rfl,sp36⟩:=hs30.freezeSl (d:=kI) ok_m.okt (Kn.rows_mono ok_m.hkt hle5) this
 have:=sp36.len; have:=sp36.le
 have hs35:St H31 _ (obj g_m 56 (rCells m.n (.slice A24 (((m.ps.take k) ++ (m.ps.drop (k + 1))).length) c25) (.slice A32 m.bi.length c33) m.df m.lost)::row 37 3 (.slice A24 (((m.ps.take k) ++ (m.ps.drop (k + 1))).length) c25) (((m.ps.take k) ++ (m.ps.drop (k + 1))).length) cs19::L):=hs35
 refine st (v:=.slice A32 k c33) (sl_h (d:=kI) Tryd.underlying52 inf3 (a:=((k:Nat):Int)) (.tmp rfl rfl) (.tmp rfl rfl) (by omega) (by omega)) ?_
 have hs37:St H31 _ (row 3 1 (.slice none 0 0) (([]:List Int).length) []::obj g_m 56 (rCells m.n (.slice A24 (((m.ps.take k) ++ (m.ps.drop (k + 1))).length) c25) (.slice A32 m.bi.length c33) m.df m.lost)::row 37 3 (.slice A24 (((m.ps.take k) ++ (m.ps.drop (k + 1))).length) c25) (((m.ps.take k) ++ (m.ps.drop (k + 1))).length) cs19::L):=hs35.krowNil 3 kI
 have:([]:List Int).length = 0:=rfl
 refine st_m (m_appSl (d:=kI) (ys:=(m.bi.take k)) Tryd.underlying52 inf3 rfl hs37 (RowOk.knil kI) (Kn.rows_nil _ _) (.tmp rfl rfl) (.tmp rfl rfl) (sp36.take (k:=k) (by omega)) (by omega) (by decide)) ?_
 rintro v39 w40 ⟨cs41,ok42,hk43,hs44⟩
 have hn45:(([]:List Int) ++ (m.bi.take k)).length = ([]:List Int).length + k:=by rw [List.length_append,(sp36.take (k:=k) (by omega)).len]
 have hn45:(m.bi.take k).length = k:=(sp36.take (k:=k) (by omega)).len
 have ok42:RowOk kI.sz v39 (m.bi.take k).length cs41:=ok42
 have hk43:kI.toKn.rows H31 (m.bi.take k) cs41:=hk43
 have hs44:St H31 _ (row 3 1 v39 ((m.bi.take k).length) cs41::obj g_m 56 (rCells m.n (.slice A24 (((m.ps.take k) ++ (m.ps.drop (k + 1))).length) c25) (.slice A32 m.bi.length c33) m.df m.lost)::row 37 3 (.slice A24 (((m.ps.take k) ++ (m.ps.drop (k + 1))).length) c25) (((m.ps.take k) ++ (m.ps.drop (k + 1))).length) cs19::L):=hs44
 refine st (v:=v39) (x_assign (.tmp rfl rfl)) ?_
 refine c_nil ?_
 refine n_then ?_
 refine c_region ?_
 refine st (v:=.pointer (some ⟨g_m,0,none⟩)) (x_move (.tmp rfl rfl)) ?_
 refine st (v:=v39) (x_move (.tmp rfl rfl)) ?_
 refine st (v:=.pointer (some ⟨g_m,0,none⟩)) (x_move (.tmp rfl rfl)) ?_
 refine st (v:=.pointer (some ⟨g_m,0,none⟩)) (x_nilCheck (.tmp rfl rfl)) ?_
 refine st (v:=.pointer (some ⟨g_m,0 + 2,none⟩)) (fa56_2 (.tmp rfl rfl)) ?_
 refine st (v:=.slice A32 m.bi.length c33) (ld52 (.tmp rfl rfl) (hs44.cell 1 rfl (0 + 2) rfl)) ?_
 refine st (v:=.int .i64 ((k:Nat):Int)) (x_move (.tmp rfl (congrArg (Value.int .i64) hk))) ?_
 refine st (v:=.int .i64 (((k + 1):Nat):Int)) (x_add (k:=.i64) (a:=((k:Nat):Int)) (b:=1) (.tmp rfl rfl) .const ((w64 (by omega) (by omega)).trans (by omega))) ?_
 refine st (v:=.slice (cutA A32 c33 (k + 1) 1) (m.bi.length - (k + 1)) (c33 - (k + 1))) (sl_l (d:=kI) Tryd.underlying52 inf3 (a:=(((k + 1):Nat):Int)) (.tmp rfl rfl) (.tmp rfl rfl) (by omega) (by omega) (by omega)) ?_
 refine st_m (m_appSl (d:=kI) (ys:=(m.bi.drop (k + 1))) Tryd.underlying52 inf3 rfl hs44 ok42 hk43 (.tmp rfl rfl) (.tmp rfl rfl) (sp36.drop (k:=(k + 1)) (by omega)) (by omega) (by decide)) ?_
 rintro v46 w47 ⟨cs48,ok49,hk50,hs51⟩
 have hn52:((m.bi.take k) ++ (m.bi.drop (k + 1))).length = (m.bi.take k).length + (m.bi.length - (k + 1)):=by rw [List.length_append,(sp36.drop (k:=(k + 1)) (by omega)).len]
 refine st (v:=.pointer (some ⟨g_m,0,none⟩)) (x_nilCheck (.tmp rfl rfl)) ?_
 refine st (v:=.pointer (some ⟨g_m,0 + 2,none⟩)) (fa56_2 (.tmp rfl rfl)) ?_
 obtain ⟨A53,c54,rfl,hc55⟩:=ok49.slice
 have hs56:=hs51.p1
 refine st_m0 (sto52 (cs':=(rCells m.n (.slice A24 (((m.ps.take k) ++ (m.ps.drop (k + 1))).length) c25) (.slice A53 (((m.bi.take k) ++ (m.bi.drop (k + 1))).length) c54) m.df m.lost)) (i:=0 + 2) hs56 (v:=.slice A53 (((m.bi.take k) ++ (m.bi.drop (k + 1))).length) c54) (.tmp rfl rfl) (.tmp rfl rfl) rfl (by rw [rn_len ok_m.dl]; omega) one1 (rfl)) ?_
 rintro w57 hs58
 refine c_nil ?_
 refine leave_end (res_none rfl) ?_
 have okn59:RSOk H31 (RS.mk m.n m.df ((m.ps.take k) ++ (m.ps.drop (k + 1))) ((m.bi.take k) ++ (m.bi.drop (k + 1))) m.lost) (.slice A24 (((m.ps.take k) ++ (m.ps.drop (k + 1))).length) c25) cs19 (.slice A53 (((m.bi.take k) ++ (m.bi.drop (k + 1))).length) c54) cs48:=⟨hn1_m,hn16_m,ok_m.dl,ok20,(Kn.rows_mono hk21 hle34),ok49,hk50,(show ((m.bi.take k) ++ (m.bi.drop (k + 1))).length = ((m.ps.take k) ++ (m.ps.drop (k + 1))).length by first | exact hlen_m | (rw [List.length_eraseIdx,List.length_eraseIdx,hlen_t]) | (simp; omega)),(show ((m.ps.take k) ++ (m.ps.drop (k + 1))).length ≤ 4096 by first | exact hmax_m | exact Nat.le_trans (List.length_eraseIdx_le ..) hmax_t | (simp; omega)),(show 0 ≤ m.lost by first | exact hl0_m | omega),(by rw [← erase_split]; exact rpin_erase ok_m.pin)⟩
 exact ⟨H31,(RS.mk m.n m.df ((m.ps.take k) ++ (m.ps.drop (k + 1))) ((m.bi.take k) ++ (m.bi.drop (k + 1))) m.lost),(.slice A24 (((m.ps.take k) ++ (m.ps.drop (k + 1))).length) c25),cs19,(.slice A53 (((m.bi.take k) ++ (m.bi.drop (k + 1))).length) c54),cs48,(hle5.trans hle34),rfl,(RSOk.any okn59),(by rw [show i.toNat = k by omega]; unfold RS.outS; rw [erase_split,erase_split]),(((hs58.pick 1 rfl rfl).pick 2 rfl rfl).pick 2 rfl rfl)⟩
set_option maxHeartbeats 8000000 in
theorem rdrop_spec {H:Hp} {w:World} {L:List Res} {g_m:Nat} {m:RS} {vb_m:Value} {cb_m:List Value} {vt_m:Value} {ct_m:List Value} (hs:St H w (obj g_m 56 (rCells m.n vb_m vt_m m.df m.lost)::row 37 3 vb_m m.ps.length cb_m::row 3 1 vt_m m.bi.length ct_m::L)) (ok_m:RSOk H m vb_m cb_m vt_m ct_m) (i:Int) (b_i:IB i) (hlost:m.lost < 4611686018427387904):Calls Tryd.prog 43 #[.pointer (some ⟨g_m,0,none⟩),.int .i64 i] w (fun e w' => ∃ (H':Hp) (m':RS) (vb_m':Value) (cb_m':List Value) (vt_m':Value) (ct_m':List Value),H.le H'∧e = .returned (.int .i64 (m.dropE i))∧RSOk H' m' vb_m' cb_m' vt_m' ct_m'∧m' = m.dropS i∧St H' w' (obj g_m 56 (rCells m'.n vb_m' vt_m' m'.df m'.lost)::row 37 3 vb_m' m'.ps.length cb_m'::row 3 1 vt_m' m'.bi.length ct_m'::L)):=by
 have hn1_m:=ok_m.n1
 have hn16_m:=ok_m.n16
 have hlen_m:=ok_m.len
 have hmax_m:=ok_m.max
 have hl0_m:=ok_m.l0
 obtain ⟨b_i1,b_i2⟩:=b_i
 refine enter (args:=[.pointer (some ⟨g_m,0,none⟩),.int .i64 i]) (N:=26) Tryd.func43 rfl rfl rfl ?_
 refine c_seq ?_
 refine c_region ?_
 refine st (v:=.int .i64 0) (x_assign .const) ?_
 refine c_nil ?_
 refine n_then ?_
 refine c_seq ?_
 refine c_seq ?_
 refine c_region ?_
 refine st (v:=.int .i64 i) (x_move (.tmp rfl rfl)) ?_
 refine st (v:=.bool (decide ((i:Int) < 0))) (x_lss (k:=.i64) (a:=i) (b:=0) (.tmp rfl rfl) .const) ?_
 refine st (v:=.bool (decide ((i:Int) < 0))) (x_move (.tmp rfl rfl)) ?_
 rcases Bool.eq_false_or_eq_true (decide ((i:Int) < 0)) with hc1 | hc1
 have hp1:(i:Int) < 0:=of_decide_eq_true hc1
 refine g_no (yl (dj:=7) (b:=true) rfl rfl (congrArg Value.bool hc1)) rfl ?_
 refine g_no (yl (dj:=7) (b:=true) rfl rfl (congrArg Value.bool hc1)) rfl ?_
 refine g_no (yl (dj:=7) (b:=true) rfl rfl (congrArg Value.bool hc1)) rfl ?_
 refine g_no (yl (dj:=7) (b:=true) rfl rfl (congrArg Value.bool hc1)) rfl ?_
 refine g_no (yl (dj:=7) (b:=true) rfl rfl (congrArg Value.bool hc1)) rfl ?_
 refine g_no (yl (dj:=7) (b:=true) rfl rfl (congrArg Value.bool hc1)) rfl ?_
 refine g_no (yl (dj:=7) (b:=true) rfl rfl (congrArg Value.bool hc1)) rfl ?_
 refine st (v:=.bool true) (x_pick_t (.tmp rfl (congrArg Value.bool hc1)) .const) ?_
 refine c_nil ?_
 refine n_then ?_
 refine c_cond_t (t:=true) (.tmp rfl rfl) rfl ?_
 refine c_seq ?_
 refine c_region ?_
 refine st (v:=.int .i64 1) (x_assign .const) ?_
 refine c_nil ?_
 refine n_then ?_
 refine c_ret ?_
 refine r_then ?_
 refine leave_ret (res_one (v:=.int .i64 1) rfl (.mk rfl rfl)) ?_
 have hd9:=rdrop_no (s:=m) (i:=i) (by unfold RS.inn; omega)
 rw [hd9.1]
 exact ⟨H,m,vb_m,cb_m,vt_m,ct_m,(Hp.le.refl _),rfl,ok_m,hd9.2.symm,(((hs.pick 2 rfl rfl).pick 2 rfl rfl).pick 2 rfl rfl)⟩
 have hp1:¬ ((i:Int) < 0):=of_decide_eq_false hc1
 refine g_yes (yl (dj:=7) (b:=false) rfl rfl (congrArg Value.bool hc1)) ?_
 refine st (v:=.int .i64 i) (x_move (.tmp rfl rfl)) ?_
 refine g_yes (yl (dj:=7) (b:=false) rfl rfl (congrArg Value.bool hc1)) ?_
 refine st (v:=.pointer (some ⟨g_m,0,none⟩)) (x_move (.tmp rfl rfl)) ?_
 refine g_yes (yl (dj:=7) (b:=false) rfl rfl (congrArg Value.bool hc1)) ?_
 refine st (v:=.pointer (some ⟨g_m,0,none⟩)) (x_nilCheck (.tmp rfl rfl)) ?_
 refine g_yes (yl (dj:=7) (b:=false) rfl rfl (congrArg Value.bool hc1)) ?_
 refine st (v:=.pointer (some ⟨g_m,0 + 1,none⟩)) (fa56_1 (.tmp rfl rfl)) ?_
 refine g_yes (yl (dj:=7) (b:=false) rfl rfl (congrArg Value.bool hc1)) ?_
 refine st (v:=vb_m) (ld51 (.tmp rfl rfl) (hs.cell 0 rfl (0 + 1) rfl)) ?_
 refine g_yes (yl (dj:=7) (b:=false) rfl rfl (congrArg Value.bool hc1)) ?_
 obtain ⟨A2,c3,hv4,hc5⟩:=ok_m.okb.slice
 refine st (v:=.int .i64 ((m.ps.length:Nat):Int)) (x_len (n:=m.ps.length) Tryd.underlying51 (.tmp rfl hv4)) ?_
 refine g_yes (yl (dj:=7) (b:=false) rfl rfl (congrArg Value.bool hc1)) ?_
 refine st (v:=.bool (decide ((((m.ps.length:Nat):Int):Int) ≤ i))) (x_geq (k:=.i64) (a:=i) (b:=((m.ps.length:Nat):Int)) (.tmp rfl rfl) (.tmp rfl rfl)) ?_
 refine st (v:=.bool (decide ((((m.ps.length:Nat):Int):Int) ≤ i))) (x_pick_f (.tmp rfl (congrArg Value.bool hc1)) (.tmp rfl rfl)) ?_
 refine c_nil ?_
 refine n_then ?_
 rcases Bool.eq_false_or_eq_true (decide ((((m.ps.length:Nat):Int):Int) ≤ i)) with hc6 | hc6
 have hp6:(((m.ps.length:Nat):Int):Int) ≤ i:=of_decide_eq_true hc6
 refine c_cond_t (t:=true) (.tmp rfl (congrArg Value.bool hc6)) rfl ?_
 refine c_seq ?_
 refine c_region ?_
 refine st (v:=.int .i64 1) (x_assign .const) ?_
 refine c_nil ?_
 refine n_then ?_
 refine c_ret ?_
 refine r_then ?_
 refine leave_ret (res_one (v:=.int .i64 1) rfl (.mk rfl rfl)) ?_
 have hd9:=rdrop_no (s:=m) (i:=i) (by unfold RS.inn; omega)
 rw [hd9.1]
 exact ⟨H,m,vb_m,cb_m,vt_m,ct_m,(Hp.le.refl _),rfl,ok_m,hd9.2.symm,(((hs.pick 2 rfl rfl).pick 2 rfl rfl).pick 2 rfl rfl)⟩
 have hp6:¬ ((((m.ps.length:Nat):Int):Int) ≤ i):=of_decide_eq_false hc6
 refine c_cond_f (t:=false) (.tmp rfl (congrArg Value.bool hc6)) rfl ?_
 refine c_skip ?_
 refine n_then ?_
 refine c_seq ?_
 refine c_region ?_
 have hin:m.inn i:=⟨by omega,by omega⟩
 refine st (v:=.pointer (some ⟨g_m,0,none⟩)) (x_move (.tmp rfl rfl)) ?_
 refine st (v:=.int .i64 i) (x_move (.tmp rfl rfl)) ?_
 have hs7:=hs.p2
 have hs8:=hs7.p2
 have hs9:=hs8.p2
 refine st_c cb52 .func (evs2 (.tmp rfl rfl) (.tmp rfl rfl)) (rout_spec hs9 (m:=m) (RSOk.any ok_m) i ⟨b_i1,b_i2⟩ hin) ?_
 rintro e w10 ⟨H12,nr14,vb15,cb16,vt17,ct18,hle13,rfl,ok19,hnr20,hs11⟩
 refine ⟨_,rfl,?_⟩
 have hn1_m:=ok19.n1
 have hn16_m:=ok19.n16
 have hlen_m:=ok19.len
 have hmax_m:=ok19.max
 have hl0_m:=ok19.l0
 refine c_nil ?_
 refine n_then ?_
 refine c_seq ?_
 refine c_region ?_
 refine st (v:=.pointer (some ⟨g_m,0,none⟩)) (x_move (.tmp rfl rfl)) ?_
 refine st (v:=.pointer (some ⟨g_m,0,none⟩)) (x_nilCheck (.tmp rfl rfl)) ?_
 refine st (v:=.pointer (some ⟨g_m,0 + 259,none⟩)) (fa56_4 (.tmp rfl rfl)) ?_
 refine st (v:=.int .i64 nr14.lost) (ld3 (.tmp rfl rfl) (hs11.cell 0 rfl (0 + 259) (rn_lost ok19.dl))) ?_
 have hlo:nr14.lost = m.lost:=(congrArg RS.lost hnr20).trans rfl
 refine st (v:=.int .i64 (nr14.lost + 1)) (x_add (k:=.i64) (a:=nr14.lost) (b:=1) (.tmp rfl rfl) .const (w64 (by omega) (by omega))) ?_
 refine st (v:=.pointer (some ⟨g_m,0,none⟩)) (x_nilCheck (.tmp rfl rfl)) ?_
 refine st (v:=.pointer (some ⟨g_m,0 + 259,none⟩)) (fa56_4 (.tmp rfl rfl)) ?_
 refine st_m0 (sto3 (cs':=(rCells nr14.n vb15 vt17 nr14.df (nr14.lost + 1))) (i:=0 + 259) hs11 (v:=.int .i64 (nr14.lost + 1)) (.tmp rfl rfl) (.tmp rfl rfl) rfl (by rw [rn_len ok19.dl]; omega) one1 (rn_setL ok19.dl _)) ?_
 rintro w21 hs22
 refine c_nil ?_
 refine n_then ?_
 refine c_seq ?_
 refine c_region ?_
 refine st (v:=.int .i64 0) (x_assign .const) ?_
 refine c_nil ?_
 refine n_then ?_
 refine c_ret ?_
 refine leave_ret (res_one (v:=.int .i64 0) rfl (.mk rfl rfl)) ?_
 have hd9:=rdrop_yes hin
 rw [hd9.1]
 have okn23:RSOk H12 (RS.mk nr14.n nr14.df nr14.ps nr14.bi (nr14.lost + 1)) vb15 cb16 vt17 ct18:=⟨hn1_m,hn16_m,ok19.dl,ok19.okb,ok19.hkb,ok19.okt,ok19.hkt,(show nr14.bi.length = nr14.ps.length by first | exact hlen_m | (rw [List.length_eraseIdx,List.length_eraseIdx,hlen_t]) | (simp; omega)),(show nr14.ps.length ≤ 4096 by first | exact hmax_m | exact Nat.le_trans (List.length_eraseIdx_le ..) hmax_t | (simp; omega)),(show 0 ≤ (nr14.lost + 1) by first | exact hl0_m | omega),ok19.pin⟩
 exact ⟨H12,(RS.mk nr14.n nr14.df nr14.ps nr14.bi (nr14.lost + 1)),vb15,cb16,vt17,ct18,hle13,rfl,(RSOk.any okn23),(by rw [hd9.2,← hnr20]; rfl),(((hs22.pick 2 rfl rfl).pick 2 rfl rfl).pick 2 rfl rfl)⟩
set_option maxHeartbeats 8000000 in
theorem rtake_spec {H:Hp} {w:World} {L:List Res} {g_m:Nat} {m:RS} {vb_m:Value} {cb_m:List Value} {vt_m:Value} {ct_m:List Value} (hs:St H w (obj g_m 56 (rCells m.n vb_m vt_m m.df m.lost)::row 37 3 vb_m m.ps.length cb_m::row 3 1 vt_m m.bi.length ct_m::L)) (ok_m:RSOk H m vb_m cb_m vt_m ct_m) (i:Int) (b_i:IB i) (hlost:m.lost < 4611686018427387904):Calls Tryd.prog 41 #[.pointer (some ⟨g_m,0,none⟩),.int .i64 i] w (fun e w' => ∃ (H':Hp) (m':RS) (vb_m':Value) (cb_m':List Value) (vt_m':Value) (ct_m':List Value),H.le H'∧e = .returned (.tuple #[.agg #[.int .i64 (m.takeP i).From,.int .i64 (m.takeP i).To,(m.takeP i).v],.int .i64 (m.takeE i)])∧RSOk H' m' vb_m' cb_m' vt_m' ct_m'∧m' = m.takeS i∧St H' w' (obj g_m 56 (rCells m'.n vb_m' vt_m' m'.df m'.lost)::row 37 3 vb_m' m'.ps.length cb_m'::row 3 1 vt_m' m'.bi.length ct_m'::L)):=by
 have hn1_m:=ok_m.n1
 have hn16_m:=ok_m.n16
 have hlen_m:=ok_m.len
 have hmax_m:=ok_m.max
 have hl0_m:=ok_m.l0
 obtain ⟨b_i1,b_i2⟩:=b_i
 refine enter (args:=[.pointer (some ⟨g_m,0,none⟩),.int .i64 i]) (N:=48) Tryd.func41 rfl rfl rfl ?_
 refine c_seq ?_
 refine c_region ?_
 refine st_m (al37 (cs:=[.int .i64 0,.int .i64 0,.slice none 0 0]) hs rfl) ?_
 rintro _ w2 ⟨g1,rfl,hs4⟩
 refine st (v:=.int .i64 0) (x_assign .const) ?_
 refine c_nil ?_
 refine n_then ?_
 refine c_seq ?_
 refine c_seq ?_
 refine c_region ?_
 refine st (v:=.int .i64 i) (x_move (.tmp rfl rfl)) ?_
 refine st (v:=.bool (decide ((i:Int) < 0))) (x_lss (k:=.i64) (a:=i) (b:=0) (.tmp rfl rfl) .const) ?_
 refine st (v:=.bool (decide ((i:Int) < 0))) (x_move (.tmp rfl rfl)) ?_
 rcases Bool.eq_false_or_eq_true (decide ((i:Int) < 0)) with hc5 | hc5
 have hp5:(i:Int) < 0:=of_decide_eq_true hc5
 refine g_no (yl (dj:=9) (b:=true) rfl rfl (congrArg Value.bool hc5)) rfl ?_
 refine g_no (yl (dj:=9) (b:=true) rfl rfl (congrArg Value.bool hc5)) rfl ?_
 refine g_no (yl (dj:=9) (b:=true) rfl rfl (congrArg Value.bool hc5)) rfl ?_
 refine g_no (yl (dj:=9) (b:=true) rfl rfl (congrArg Value.bool hc5)) rfl ?_
 refine g_no (yl (dj:=9) (b:=true) rfl rfl (congrArg Value.bool hc5)) rfl ?_
 refine g_no (yl (dj:=9) (b:=true) rfl rfl (congrArg Value.bool hc5)) rfl ?_
 refine g_no (yl (dj:=9) (b:=true) rfl rfl (congrArg Value.bool hc5)) rfl ?_
 refine st (v:=.bool true) (x_pick_t (.tmp rfl (congrArg Value.bool hc5)) .const) ?_
 refine c_nil ?_
 refine n_then ?_
 refine c_cond_t (t:=true) (.tmp rfl rfl) rfl ?_
 refine c_seq ?_
 refine c_region ?_
 refine st (v:=.agg #[.int .i64 0,.int .i64 0,.slice none 0 0]) (bl37 (ps:=[]) Evp.nil rfl) ?_
 refine st_m0 (sto37 (cs':=[.int .i64 0,.int .i64 0,.slice none 0 0]) (i:=0) hs4 (v:=.agg #[.int .i64 0,.int .i64 0,.slice none 0 0]) (.tmp rfl rfl) (.tmp rfl rfl) rfl (Nat.le_of_ble_eq_true rfl) (oneA rfl) rfl) ?_
 rintro w6 hs8
 refine st (v:=.int .i64 1) (x_assign .const) ?_
 refine c_nil ?_
 refine n_then ?_
 refine c_ret ?_
 refine r_then ?_
 refine leave_ret (res_two (v:=.agg #[.int .i64 0,.int .i64 0,.slice none 0 0]) (u:=.int .i64 1) rfl (.mkCell rfl rfl (lv37 (cs:=[.int .i64 0,.int .i64 0,.slice none 0 0]) (hs8.at_ 0 rfl 0 rfl) rfl)) (.mk rfl rfl)) ?_
 have ht9:=rtake_no (s:=m) (i:=i) (by unfold RS.inn; omega)
 rw [ht9.1,ht9.2.1]
 exact ⟨H,m,vb_m,cb_m,vt_m,ct_m,(Hp.le.refl _),rfl,ok_m,ht9.2.2.symm,(((hs8.drop.pick 2 rfl rfl).pick 2 rfl rfl).pick 2 rfl rfl)⟩
 have hp5:¬ ((i:Int) < 0):=of_decide_eq_false hc5
 refine g_yes (yl (dj:=9) (b:=false) rfl rfl (congrArg Value.bool hc5)) ?_
 refine st (v:=.int .i64 i) (x_move (.tmp rfl rfl)) ?_
 refine g_yes (yl (dj:=9) (b:=false) rfl rfl (congrArg Value.bool hc5)) ?_
 refine st (v:=.pointer (some ⟨g_m,0,none⟩)) (x_move (.tmp rfl rfl)) ?_
 refine g_yes (yl (dj:=9) (b:=false) rfl rfl (congrArg Value.bool hc5)) ?_
 refine st (v:=.pointer (some ⟨g_m,0,none⟩)) (x_nilCheck (.tmp rfl rfl)) ?_
 refine g_yes (yl (dj:=9) (b:=false) rfl rfl (congrArg Value.bool hc5)) ?_
 refine st (v:=.pointer (some ⟨g_m,0 + 1,none⟩)) (fa56_1 (.tmp rfl rfl)) ?_
 refine g_yes (yl (dj:=9) (b:=false) rfl rfl (congrArg Value.bool hc5)) ?_
 refine st (v:=vb_m) (ld51 (.tmp rfl rfl) (hs4.cell 1 rfl (0 + 1) rfl)) ?_
 refine g_yes (yl (dj:=9) (b:=false) rfl rfl (congrArg Value.bool hc5)) ?_
 obtain ⟨A9,c10,hv11,hc12⟩:=ok_m.okb.slice
 refine st (v:=.int .i64 ((m.ps.length:Nat):Int)) (x_len (n:=m.ps.length) Tryd.underlying51 (.tmp rfl hv11)) ?_
 refine g_yes (yl (dj:=9) (b:=false) rfl rfl (congrArg Value.bool hc5)) ?_
 refine st (v:=.bool (decide ((((m.ps.length:Nat):Int):Int) ≤ i))) (x_geq (k:=.i64) (a:=i) (b:=((m.ps.length:Nat):Int)) (.tmp rfl rfl) (.tmp rfl rfl)) ?_
 refine st (v:=.bool (decide ((((m.ps.length:Nat):Int):Int) ≤ i))) (x_pick_f (.tmp rfl (congrArg Value.bool hc5)) (.tmp rfl rfl)) ?_
 refine c_nil ?_
 refine n_then ?_
 rcases Bool.eq_false_or_eq_true (decide ((((m.ps.length:Nat):Int):Int) ≤ i)) with hc13 | hc13
 have hp13:(((m.ps.length:Nat):Int):Int) ≤ i:=of_decide_eq_true hc13
 refine c_cond_t (t:=true) (.tmp rfl (congrArg Value.bool hc13)) rfl ?_
 refine c_seq ?_
 refine c_region ?_
 refine st (v:=.agg #[.int .i64 0,.int .i64 0,.slice none 0 0]) (bl37 (ps:=[]) Evp.nil rfl) ?_
 refine st_m0 (sto37 (cs':=[.int .i64 0,.int .i64 0,.slice none 0 0]) (i:=0) hs4 (v:=.agg #[.int .i64 0,.int .i64 0,.slice none 0 0]) (.tmp rfl rfl) (.tmp rfl rfl) rfl (Nat.le_of_ble_eq_true rfl) (oneA rfl) rfl) ?_
 rintro w14 hs16
 refine st (v:=.int .i64 1) (x_assign .const) ?_
 refine c_nil ?_
 refine n_then ?_
 refine c_ret ?_
 refine r_then ?_
 refine leave_ret (res_two (v:=.agg #[.int .i64 0,.int .i64 0,.slice none 0 0]) (u:=.int .i64 1) rfl (.mkCell rfl rfl (lv37 (cs:=[.int .i64 0,.int .i64 0,.slice none 0 0]) (hs16.at_ 0 rfl 0 rfl) rfl)) (.mk rfl rfl)) ?_
 have ht9:=rtake_no (s:=m) (i:=i) (by unfold RS.inn; omega)
 rw [ht9.1,ht9.2.1]
 exact ⟨H,m,vb_m,cb_m,vt_m,ct_m,(Hp.le.refl _),rfl,ok_m,ht9.2.2.symm,(((hs16.drop.pick 2 rfl rfl).pick 2 rfl rfl).pick 2 rfl rfl)⟩
 have hp13:¬ ((((m.ps.length:Nat):Int):Int) ≤ i):=of_decide_eq_false hc13
 refine c_cond_f (t:=false) (.tmp rfl (congrArg Value.bool hc13)) rfl ?_
 refine c_skip ?_
 refine n_then ?_
 refine c_seq ?_
 refine c_region ?_
 have hin:m.inn i:=⟨by omega,by omega⟩
 refine st (v:=.pointer (some ⟨g_m,0,none⟩)) (x_move (.tmp rfl rfl)) ?_
 refine st (v:=.pointer (some ⟨g_m,0,none⟩)) (x_nilCheck (.tmp rfl rfl)) ?_
 refine st (v:=.pointer (some ⟨g_m,0 + 1,none⟩)) (fa56_1 (.tmp rfl rfl)) ?_
 refine st (v:=vb_m) (ld51 (.tmp rfl rfl) (hs4.cell 1 rfl (0 + 1) rfl)) ?_
 refine st (v:=.int .i64 i) (x_move (.tmp rfl rfl)) ?_
 obtain ⟨g17,c18,hv19⟩:=ok_m.okb.pos (by omega)
 obtain ⟨e20,cs21,hx22,hr23,hsub24⟩:=Kn.rows_get (i:=i.toNat) ok_m.hkb (by omega)
 obtain ⟨rfl,⟨b25,b26⟩,⟨b27,b28⟩,ok29,sm30,lb31⟩:=hr23
 have hat_e20:m.at_ i = e20:=rat_is hx22
 have hpn_e20:=rpin_at ok_m.pin hx22
 refine st (v:=.pointer (some ⟨g17,(i.toNat * 3),none⟩)) (ixo51 (.tmp rfl hv19) rfl (i:=i) (.tmp rfl rfl) (by omega) (by omega) (by omega)) ?_
 refine st (v:=.agg #[.int .i64 e20.From,.int .i64 e20.To,e20.v]) (ld37 (cs:=[.int .i64 e20.From,.int .i64 e20.To,e20.v]) (.tmp rfl rfl) ((hs4.rowAt 2 rfl hv19 (i.toNat * 3) hsub24).sub 0 rfl) rfl) ?_
 refine st_m (al37 (cs:=[.int .i64 0,.int .i64 0,.slice none 0 0]) hs4 rfl) ?_
 rintro _ w33 ⟨g32,rfl,hs35⟩
 refine st_m0 (sto37 (cs':=[.int .i64 e20.From,.int .i64 e20.To,e20.v]) (i:=0) hs35 (v:=.agg #[.int .i64 e20.From,.int .i64 e20.To,e20.v]) (.tmp rfl rfl) (.tmp rfl rfl) rfl (Nat.le_of_ble_eq_true rfl) (oneA (allC rfl (allC rfl (allC (RowOk.oneC ok29) rfl)))) rfl) ?_
 rintro w36 hs38
 refine c_nil ?_
 refine n_then ?_
 refine c_seq ?_
 refine c_region ?_
 refine st (v:=.pointer (some ⟨g_m,0,none⟩)) (x_move (.tmp rfl rfl)) ?_
 refine st (v:=.int .i64 i) (x_move (.tmp rfl rfl)) ?_
 have hs39:=hs38.p4
 have hs40:=hs39.p4
 have hs41:=hs40.p4
 refine st_c cb52 .func (evs2 (.tmp rfl rfl) (.tmp rfl rfl)) (rout_spec hs41 (m:=m) (RSOk.any ok_m) i ⟨b_i1,b_i2⟩ hin) ?_
 rintro e w42 ⟨H44,nr46,vb47,cb48,vt49,ct50,hle45,rfl,ok51,hnr52,hs43⟩
 refine ⟨_,rfl,?_⟩
 have hn1_m:=ok51.n1
 have hn16_m:=ok51.n16
 have hlen_m:=ok51.len
 have hmax_m:=ok51.max
 have hl0_m:=ok51.l0
 refine c_nil ?_
 refine n_then ?_
 refine c_seq ?_
 refine c_seq ?_
 refine q_region mixed hs43 (by kernel_rfl) ?_
 have hrn:nr46.n = m.n:=(congrArg RS.n hnr52).trans rfl
 refine q_st (v:=.pointer (some ⟨g_m,0,none⟩)) (fun w hs => (x_move (.tmp rfl rfl))) ?_
 refine q_st (v:=.pointer (some ⟨g32,0 + 0,none⟩)) (fun w hs => (fa37_0 (.tmp rfl rfl))) ?_
 refine q_st (v:=.int .i64 e20.From) (fun w hs => (ld3 (.tmp rfl rfl) (hs.cell 3 rfl (0 + 0) rfl))) ?_
 refine q_st (v:=.pointer (some ⟨g32,0 + 1,none⟩)) (fun w hs => (fa37_1 (.tmp rfl rfl))) ?_
 refine q_st (v:=.int .i64 e20.To) (fun w hs => (ld3 (.tmp rfl rfl) (hs.cell 3 rfl (0 + 1) rfl))) ?_
 refine q_st (v:=.pointer (some ⟨g_m,0,none⟩)) (fun w hs => (x_nilCheck (.tmp rfl rfl))) ?_
 refine q_st (v:=.pointer (some ⟨g_m,0 + 3,none⟩)) (fun w hs => (fa56_3 (.tmp rfl rfl))) ?_
 refine q_st (v:=.pointer (some ⟨g_m,(3 + e20.From.toNat * 16),none⟩)) (fun w hs => (ixo54 (.tmp rfl rfl) (i:=e20.From) (.tmp rfl rfl) (by omega) (by omega) (by omega))) ?_
 refine q_st (v:=.pointer (some ⟨g_m,(3 + (e20.From.toNat * 16 + e20.To.toNat)),none⟩)) (fun w hs => (ixo53 (.tmp rfl rfl) (i:=e20.To) (.tmp rfl rfl) (by omega) (by omega) (by omega))) ?_
 refine q_st (v:=.bool (nr46.deaf e20.From e20.To)) (fun w hs => (ld4 (.tmp rfl rfl) (hs.cell 0 rfl (3 + (e20.From.toNat * 16 + e20.To.toNat)) (rn_df ok51.dl (by omega))))) ?_
 refine q_nil ?_
 intro w hs53
 refine n_then ?_
 rcases Bool.eq_false_or_eq_true (nr46.deaf e20.From e20.To) with hc54 | hc54
 refine c_cond_t (t:=true) (.tmp rfl (congrArg Value.bool hc54)) rfl ?_
 refine c_seq ?_
 refine c_region ?_
 refine st (v:=.pointer (some ⟨g_m,0,none⟩)) (x_move (.tmp rfl rfl)) ?_
 refine st (v:=.pointer (some ⟨g_m,0,none⟩)) (x_nilCheck (.tmp rfl rfl)) ?_
 refine st (v:=.pointer (some ⟨g_m,0 + 259,none⟩)) (fa56_4 (.tmp rfl rfl)) ?_
 refine st (v:=.int .i64 nr46.lost) (ld3 (.tmp rfl rfl) (hs53.cell 0 rfl (0 + 259) (rn_lost ok51.dl))) ?_
 have hlo:nr46.lost = m.lost:=(congrArg RS.lost hnr52).trans rfl
 refine st (v:=.int .i64 (nr46.lost + 1)) (x_add (k:=.i64) (a:=nr46.lost) (b:=1) (.tmp rfl rfl) .const (w64 (by omega) (by omega))) ?_
 refine st (v:=.pointer (some ⟨g_m,0,none⟩)) (x_nilCheck (.tmp rfl rfl)) ?_
 refine st (v:=.pointer (some ⟨g_m,0 + 259,none⟩)) (fa56_4 (.tmp rfl rfl)) ?_
 refine st_m0 (sto3 (cs':=(rCells nr46.n vb47 vt49 nr46.df (nr46.lost + 1))) (i:=0 + 259) hs53 (v:=.int .i64 (nr46.lost + 1)) (.tmp rfl rfl) (.tmp rfl rfl) rfl (by rw [rn_len ok51.dl]; omega) one1 (rn_setL ok51.dl _)) ?_
 rintro w55 hs56
 refine c_nil ?_
 refine n_then ?_
 refine c_seq ?_
 refine c_region ?_
 refine st (v:=.agg #[.int .i64 0,.int .i64 0,.slice none 0 0]) (bl37 (ps:=[]) Evp.nil rfl) ?_
 have hs57:=hs56.p4
 refine st_m0 (sto37 (cs':=[.int .i64 0,.int .i64 0,.slice none 0 0]) (i:=0) hs57 (v:=.agg #[.int .i64 0,.int .i64 0,.slice none 0 0]) (.tmp rfl rfl) (.tmp rfl rfl) rfl (Nat.le_of_ble_eq_true rfl) (oneA rfl) rfl) ?_
 rintro w58 hs60
 refine st (v:=.int .i64 10) (x_assign .const) ?_
 refine c_nil ?_
 refine n_then ?_
 refine c_ret ?_
 refine r_then ?_
 refine leave_ret (res_two (v:=.agg #[.int .i64 0,.int .i64 0,.slice none 0 0]) (u:=.int .i64 10) rfl (.mkCell rfl rfl (lv37 (cs:=[.int .i64 0,.int .i64 0,.slice none 0 0]) (hs60.at_ 0 rfl 0 rfl) rfl)) (.mk rfl rfl)) ?_
 have hd9:m.deaf (m.at_ i).From (m.at_ i).To = true:=by rw [hat_e20]; have h9:=hc54; rw [hnr52] at h9; exact h9
 have ht9:=rtake_deaf hin hd9
 rw [ht9.1,ht9.2.1]
 have okn61:RSOk H44 (RS.mk nr46.n nr46.df nr46.ps nr46.bi (nr46.lost + 1)) vb47 cb48 vt49 ct50:=⟨hn1_m,hn16_m,ok51.dl,ok51.okb,ok51.hkb,ok51.okt,ok51.hkt,(show nr46.bi.length = nr46.ps.length by first | exact hlen_m | (rw [List.length_eraseIdx,List.length_eraseIdx,hlen_t]) | (simp; omega)),(show nr46.ps.length ≤ 4096 by first | exact hmax_m | exact Nat.le_trans (List.length_eraseIdx_le ..) hmax_t | (simp; omega)),(show 0 ≤ (nr46.lost + 1) by first | exact hl0_m | omega),ok51.pin⟩
 exact ⟨H44,(RS.mk nr46.n nr46.df nr46.ps nr46.bi (nr46.lost + 1)),vb47,cb48,vt49,ct50,hle45,rfl,(RSOk.any okn61),(by rw [ht9.2.2,← hnr52]; rfl),((((hs60.drop.pick 3 rfl rfl).drop.pick 2 rfl rfl).pick 2 rfl rfl).pick 2 rfl rfl)⟩
 refine c_cond_f (t:=false) (.tmp rfl (congrArg Value.bool hc54)) rfl ?_
 refine c_skip ?_
 refine n_then ?_
 refine c_seq ?_
 refine c_region ?_
 refine st (v:=.agg #[.int .i64 e20.From,.int .i64 e20.To,e20.v]) (ld37 (cs:=[.int .i64 e20.From,.int .i64 e20.To,e20.v]) (.tmp rfl rfl) (hs53.at_ 3 rfl (0) rfl) rfl) ?_
 have hs62:=hs53.p4
 refine st_m0 (sto37 (cs':=[.int .i64 e20.From,.int .i64 e20.To,e20.v]) (i:=0) hs62 (v:=.agg #[.int .i64 e20.From,.int .i64 e20.To,e20.v]) (.tmp rfl rfl) (.tmp rfl rfl) rfl (Nat.le_of_ble_eq_true rfl) (oneA (allC rfl (allC rfl (allC (RowOk.oneC ok29) rfl)))) rfl) ?_
 rintro w63 hs65
 refine st (v:=.int .i64 0) (x_assign .const) ?_
 refine c_nil ?_
 refine n_then ?_
 refine c_ret ?_
 refine leave_ret (res_two (v:=.agg #[.int .i64 e20.From,.int .i64 e20.To,e20.v]) (u:=.int .i64 0) rfl (.mkCell rfl rfl (lv37 (cs:=[.int .i64 e20.From,.int .i64 e20.To,e20.v]) (hs65.at_ 0 rfl 0 rfl) rfl)) (.mk rfl rfl)) ?_
 have hd9:m.deaf (m.at_ i).From (m.at_ i).To = false:=by rw [hat_e20]; have h9:=hc54; rw [hnr52] at h9; exact h9
 have ht9:=rtake_ok hin hd9
 rw [ht9.1,ht9.2.1,hat_e20]
 exact ⟨H44,nr46,vb47,cb48,vt49,ct50,hle45,rfl,(RSOk.any ok51),(by rw [ht9.2.2,← hnr52]),((((hs65.drop.pick 3 rfl rfl).drop.pick 2 rfl rfl).pick 2 rfl rfl).pick 2 rfl rfl)⟩
set_option maxHeartbeats 8000000 in
theorem rdouble_spec {H:Hp} {w:World} {L:List Res} {g_m:Nat} {m:RS} {vb_m:Value} {cb_m:List Value} {vt_m:Value} {ct_m:List Value} (hs:St H w (obj g_m 56 (rCells m.n vb_m vt_m m.df m.lost)::row 37 3 vb_m m.ps.length cb_m::row 3 1 vt_m m.bi.length ct_m::L)) (ok_m:RSOk H m vb_m cb_m vt_m ct_m) (i:Int) (b_i:IB i) (hlost:m.lost < 4611686018427387904) (hlent:m.inn i → ∃ A c,(m.at_ i).v = .slice A (m.at_ i).bs.length c∧By H A (m.at_ i).bs.length c (m.at_ i).bs):Calls Tryd.prog 44 #[.pointer (some ⟨g_m,0,none⟩),.int .i64 i] w (fun e w' => ∃ (m':RS) (vb_m':Value) (cb_m':List Value) (vt_m':Value) (ct_m':List Value) (v_:Value),e = .returned (.int .i64 (m.doubleE i))∧RSOk H m' vb_m' cb_m' vt_m' ct_m'∧m' = m.doubleS i v_∧St H w' (obj g_m 56 (rCells m'.n vb_m' vt_m' m'.df m'.lost)::row 37 3 vb_m' m'.ps.length cb_m'::row 3 1 vt_m' m'.bi.length ct_m'::(m.doubleR 5 i v_) ++ (L))):=by
 have hn1_m:=ok_m.n1
 have hn16_m:=ok_m.n16
 have hlen_m:=ok_m.len
 have hmax_m:=ok_m.max
 have hl0_m:=ok_m.l0
 obtain ⟨b_i1,b_i2⟩:=b_i
 refine enter (args:=[.pointer (some ⟨g_m,0,none⟩),.int .i64 i]) (N:=32) Tryd.func44 rfl rfl rfl ?_
 refine c_seq ?_
 refine c_region ?_
 refine st (v:=.int .i64 0) (x_assign .const) ?_
 refine c_nil ?_
 refine n_then ?_
 refine c_seq ?_
 refine c_seq ?_
 refine c_region ?_
 refine st (v:=.int .i64 i) (x_move (.tmp rfl rfl)) ?_
 refine st (v:=.bool (decide ((i:Int) < 0))) (x_lss (k:=.i64) (a:=i) (b:=0) (.tmp rfl rfl) .const) ?_
 refine st (v:=.bool (decide ((i:Int) < 0))) (x_move (.tmp rfl rfl)) ?_
 rcases Bool.eq_false_or_eq_true (decide ((i:Int) < 0)) with hc1 | hc1
 have hp1:(i:Int) < 0:=of_decide_eq_true hc1
 refine g_no (yl (dj:=7) (b:=true) rfl rfl (congrArg Value.bool hc1)) rfl ?_
 refine g_no (yl (dj:=7) (b:=true) rfl rfl (congrArg Value.bool hc1)) rfl ?_
 refine g_no (yl (dj:=7) (b:=true) rfl rfl (congrArg Value.bool hc1)) rfl ?_
 refine g_no (yl (dj:=7) (b:=true) rfl rfl (congrArg Value.bool hc1)) rfl ?_
 refine g_no (yl (dj:=7) (b:=true) rfl rfl (congrArg Value.bool hc1)) rfl ?_
 refine g_no (yl (dj:=7) (b:=true) rfl rfl (congrArg Value.bool hc1)) rfl ?_
 refine g_no (yl (dj:=7) (b:=true) rfl rfl (congrArg Value.bool hc1)) rfl ?_
 refine st (v:=.bool true) (x_pick_t (.tmp rfl (congrArg Value.bool hc1)) .const) ?_
 refine c_nil ?_
 refine n_then ?_
 refine c_cond_t (t:=true) (.tmp rfl rfl) rfl ?_
 refine c_seq ?_
 refine c_region ?_
 refine st (v:=.int .i64 1) (x_assign .const) ?_
 refine c_nil ?_
 refine n_then ?_
 refine c_ret ?_
 refine r_then ?_
 refine leave_ret (res_one (v:=.int .i64 1) rfl (.mk rfl rfl)) ?_
 have hni:¬ m.inn i:=by unfold RS.inn; omega
 have hd9:=rdouble_no (s:=m) (i:=i) (v:=.slice none 0 0) hni
 rw [hd9.1]
 have hs2:=(((hs.pick 2 rfl rfl).pick 2 rfl rfl).pick 2 rfl rfl)
 have hs3:St H _ (obj g_m 56 (rCells m.n vb_m vt_m m.df m.lost)::row 37 3 vb_m m.ps.length cb_m::row 3 1 vt_m m.bi.length ct_m::(m.doubleR 5 i (.slice none 0 0)) ++ (L)):=St.eqL hs2 (by rw [doubleR_no hni]; rfl)
 exact ⟨m,vb_m,cb_m,vt_m,ct_m,(.slice none 0 0),rfl,ok_m,hd9.2.symm,(((hs3.pick 2 rfl rfl).pick 2 rfl rfl).pick 2 rfl rfl)⟩
 have hp1:¬ ((i:Int) < 0):=of_decide_eq_false hc1
 refine g_yes (yl (dj:=7) (b:=false) rfl rfl (congrArg Value.bool hc1)) ?_
 refine st (v:=.int .i64 i) (x_move (.tmp rfl rfl)) ?_
 refine g_yes (yl (dj:=7) (b:=false) rfl rfl (congrArg Value.bool hc1)) ?_
 refine st (v:=.pointer (some ⟨g_m,0,none⟩)) (x_move (.tmp rfl rfl)) ?_
 refine g_yes (yl (dj:=7) (b:=false) rfl rfl (congrArg Value.bool hc1)) ?_
 refine st (v:=.pointer (some ⟨g_m,0,none⟩)) (x_nilCheck (.tmp rfl rfl)) ?_
 refine g_yes (yl (dj:=7) (b:=false) rfl rfl (congrArg Value.bool hc1)) ?_
 refine st (v:=.pointer (some ⟨g_m,0 + 1,none⟩)) (fa56_1 (.tmp rfl rfl)) ?_
 refine g_yes (yl (dj:=7) (b:=false) rfl rfl (congrArg Value.bool hc1)) ?_
 refine st (v:=vb_m) (ld51 (.tmp rfl rfl) (hs.cell 0 rfl (0 + 1) rfl)) ?_
 refine g_yes (yl (dj:=7) (b:=false) rfl rfl (congrArg Value.bool hc1)) ?_
 obtain ⟨A4,c5,hv6,hc7⟩:=ok_m.okb.slice
 refine st (v:=.int .i64 ((m.ps.length:Nat):Int)) (x_len (n:=m.ps.length) Tryd.underlying51 (.tmp rfl hv6)) ?_
 refine g_yes (yl (dj:=7) (b:=false) rfl rfl (congrArg Value.bool hc1)) ?_
 refine st (v:=.bool (decide ((((m.ps.length:Nat):Int):Int) ≤ i))) (x_geq (k:=.i64) (a:=i) (b:=((m.ps.length:Nat):Int)) (.tmp rfl rfl) (.tmp rfl rfl)) ?_
 refine st (v:=.bool (decide ((((m.ps.length:Nat):Int):Int) ≤ i))) (x_pick_f (.tmp rfl (congrArg Value.bool hc1)) (.tmp rfl rfl)) ?_
 refine c_nil ?_
 refine n_then ?_
 rcases Bool.eq_false_or_eq_true (decide ((((m.ps.length:Nat):Int):Int) ≤ i)) with hc8 | hc8
 have hp8:(((m.ps.length:Nat):Int):Int) ≤ i:=of_decide_eq_true hc8
 refine c_cond_t (t:=true) (.tmp rfl (congrArg Value.bool hc8)) rfl ?_
 refine c_seq ?_
 refine c_region ?_
 refine st (v:=.int .i64 1) (x_assign .const) ?_
 refine c_nil ?_
 refine n_then ?_
 refine c_ret ?_
 refine r_then ?_
 refine leave_ret (res_one (v:=.int .i64 1) rfl (.mk rfl rfl)) ?_
 have hni:¬ m.inn i:=by unfold RS.inn; omega
 have hd9:=rdouble_no (s:=m) (i:=i) (v:=.slice none 0 0) hni
 rw [hd9.1]
 have hs9:=(((hs.pick 2 rfl rfl).pick 2 rfl rfl).pick 2 rfl rfl)
 have hs10:St H _ (obj g_m 56 (rCells m.n vb_m vt_m m.df m.lost)::row 37 3 vb_m m.ps.length cb_m::row 3 1 vt_m m.bi.length ct_m::(m.doubleR 5 i (.slice none 0 0)) ++ (L)):=St.eqL hs9 (by rw [doubleR_no hni]; rfl)
 exact ⟨m,vb_m,cb_m,vt_m,ct_m,(.slice none 0 0),rfl,ok_m,hd9.2.symm,(((hs10.pick 2 rfl rfl).pick 2 rfl rfl).pick 2 rfl rfl)⟩
 have hp8:¬ ((((m.ps.length:Nat):Int):Int) ≤ i):=of_decide_eq_false hc8
 refine c_cond_f (t:=false) (.tmp rfl (congrArg Value.bool hc8)) rfl ?_
 refine c_skip ?_
 refine n_then ?_
 refine c_seq ?_
 refine t_region (L:=obj g_m 56 (rCells m.n vb_m vt_m m.df m.lost)::row 37 3 vb_m m.ps.length cb_m::row 3 1 vt_m m.bi.length ct_m::L) (L':=obj g_m 56 (rCells m.n vb_m vt_m m.df m.lost)::row 37 3 vb_m m.ps.length cb_m::row 3 1 vt_m m.bi.length ct_m::L) (Z:=[15]) (F:=[1,2,8,9]) (pl:=(.q 0 (.q 1 (.q 2 (.q 3 (.q 4 (.q 5 (.q 6 (.q 7 (.q 8 (.q 9 (.q 10 (.q 11 (.q 12 (.q 13 (.q 14 (.e 15 (.q 16 .done)))))))))))))))))) mixed hs (fun u hu => hu) (by kernel_rfl) ?_
 intro w11 hs12
 have hin:m.inn i:=⟨by omega,by omega⟩
 have hbl:i.toNat < m.bi.length:=by omega
 refine t_st (k:=0) (v:=.pointer (some ⟨g_m,0,none⟩)) rfl rfl (fun w hs => (x_move (.tmp rfl rfl))) ?_
 refine t_fr (k:=1) (v:=.pointer (some ⟨g_m,0,none⟩)) rfl (fun w _ => (x_move (.tmp rfl rfl))) ?_
 refine t_fr (k:=2) (v:=.pointer (some ⟨g_m,0,none⟩)) rfl (fun w _ => (x_nilCheck (.tmp rfl rfl))) ?_
 refine t_st (k:=3) (v:=.pointer (some ⟨g_m,0 + 1,none⟩)) rfl rfl (fun w hs => (fa56_1 (.tmp rfl rfl))) ?_
 refine t_st (k:=4) (v:=vb_m) rfl rfl (fun w hs => (ld51 (.tmp rfl rfl) (hs.cell 0 rfl (0 + 1) rfl))) ?_
 refine t_st (k:=5) (v:=.int .i64 i) rfl rfl (fun w hs => (x_move (.tmp rfl rfl))) ?_
 obtain ⟨g13,c14,hv15⟩:=ok_m.okb.pos (by omega)
 obtain ⟨e16,cs17,hx18,hr19,hsub20⟩:=Kn.rows_get (i:=i.toNat) ok_m.hkb (by omega)
 obtain ⟨rfl,⟨b21,b22⟩,⟨b23,b24⟩,ok25,sm26,lb27⟩:=hr19
 have hat_e16:m.at_ i = e16:=rat_is hx18
 have hpn_e16:=rpin_at ok_m.pin hx18
 refine t_st (k:=6) (v:=.pointer (some ⟨g13,(i.toNat * 3),none⟩)) rfl rfl (fun w hs => (ixo51 (.tmp rfl hv15) rfl (i:=i) (.tmp rfl rfl) (by omega) (by omega) (by omega))) ?_
 refine t_st (k:=7) (v:=.agg #[.int .i64 e16.From,.int .i64 e16.To,e16.v]) rfl rfl (fun w hs => (ld37 (cs:=[.int .i64 e16.From,.int .i64 e16.To,e16.v]) (.tmp rfl rfl) ((hs.rowAt 1 rfl hv15 (i.toNat * 3) hsub20).sub 0 rfl) rfl)) ?_
 refine t_fr (k:=8) (v:=.pointer (some ⟨g_m,0,none⟩)) rfl (fun w _ => (x_move (.tmp rfl rfl))) ?_
 refine t_fr (k:=9) (v:=.pointer (some ⟨g_m,0,none⟩)) rfl (fun w _ => (x_nilCheck (.tmp rfl rfl))) ?_
 refine t_st (k:=10) (v:=.pointer (some ⟨g_m,0 + 2,none⟩)) rfl rfl (fun w hs => (fa56_2 (.tmp rfl rfl))) ?_
 refine t_st (k:=11) (v:=vt_m) rfl rfl (fun w hs => (ld52 (.tmp rfl rfl) (hs.cell 0 rfl (0 + 2) rfl))) ?_
 refine t_st (k:=12) (v:=.int .i64 i) rfl rfl (fun w hs => (x_move (.tmp rfl rfl))) ?_
 obtain ⟨g28,c29,hv30⟩:=ok_m.okt.pos (by omega)
 obtain ⟨e31,cs32,hx33,hr34,hsub35⟩:=Kn.rows_get (i:=i.toNat) ok_m.hkt (by omega)
 obtain ⟨rfl,⟨b36,b37⟩⟩:=hr34
 have hbi_e31:m.bi.getD i.toNat 0 = e31:=by rw [List.getD_eq_getElem?_getD,hx33]; rfl
 refine t_st (k:=13) (v:=.pointer (some ⟨g28,(i.toNat * 1),none⟩)) rfl rfl (fun w hs => (ixo52 (.tmp rfl hv30) rfl (i:=i) (.tmp rfl rfl) (by omega) (by omega) (by omega))) ?_
 refine t_st (k:=14) (v:=.int .i64 e31) rfl rfl (fun w hs => (ld3 (.tmp rfl rfl) ((hs.rowAt 2 rfl hv30 (i.toNat * 1) hsub35).cell 0 rfl))) ?_
 refine t_eff (k:=15) rfl ?_
 obtain ⟨A38,c39,hv40,hy41⟩:=hlent hin
 rw [hat_e16] at hv40 hy41
 have hs42:=hs12.p2
 have hs43:=hs42.p2
 have hs44:=hs43.p2
 have hr45:kPacket.rep H (GPacket.mk e16.From e16.To e16.bs) [.int .i64 e16.From,.int .i64 e16.To,.slice A38 e16.bs.length c39]:=⟨A38,e16.bs.length,c39,rfl,⟨b21,b22⟩,⟨b23,b24⟩,hy41⟩
 refine st_c cb51 .func (evs3 (.tmp rfl rfl) (.tmp rfl (congrArg (fun u => Value.agg #[.int .i64 e16.From,.int .i64 e16.To,u]) hv40)) (.tmp rfl rfl)) (rput_spec hs44 (m:=m) (RSOk.any ok_m) (GPacket.mk e16.From e16.To e16.bs) hr45 e31 ⟨b36,b37⟩ hlost) ?_
 rintro e w46 ⟨nr48,vb49,cb50,vt51,ct52,v_55,rfl,ok53,hnr54,hs47⟩
 refine ⟨_,rfl,?_⟩
 have hn1_m:=ok53.n1
 have hn16_m:=ok53.n16
 have hlen_m:=ok53.len
 have hmax_m:=ok53.max
 have hl0_m:=ok53.l0
 have hs56:St H _ (obj g_m 56 (rCells nr48.n vb49 vt51 nr48.df nr48.lost)::row 37 3 vb49 nr48.ps.length cb50::row 3 1 vt51 nr48.bi.length ct52::(m.putR 5 (GPacket.mk e16.From e16.To e16.bs).From (GPacket.mk e16.From e16.To e16.bs).To (GPacket.mk e16.From e16.To e16.bs).Bytes v_55) ++ (L)):=St.xDown [obj g_m 56 (rCells nr48.n vb49 vt51 nr48.df nr48.lost),row 37 3 vb49 nr48.ps.length cb50,row 3 1 vt51 nr48.bi.length ct52] [] hs47
 refine t_new (S':=fun u => St H u (obj g_m 56 (rCells nr48.n vb49 vt51 nr48.df nr48.lost)::row 37 3 vb49 nr48.ps.length cb50::row 3 1 vt51 nr48.bi.length ct52::(m.putR 5 (GPacket.mk e16.From e16.To e16.bs).From (GPacket.mk e16.From e16.To e16.bs).To (GPacket.mk e16.From e16.To e16.bs).Bytes v_55) ++ (L))) rfl hs56 ?_
 refine t_st (k:=16) (v:=.int .i64 (m.putE (GPacket.mk e16.From e16.To e16.bs).From (GPacket.mk e16.From e16.To e16.bs).To)) rfl rfl (fun w hs => (x_assign (.tmp rfl rfl))) ?_
 refine t_nil ?_
 refine n_then ?_
 refine c_ret ?_
 refine leave_ret (res_one (v:=.int .i64 (m.putE (GPacket.mk e16.From e16.To e16.bs).From (GPacket.mk e16.From e16.To e16.bs).To)) rfl (.mk rfl rfl)) ?_
 have hd9:=rdouble_yes (v:=v_55) hin
 rw [hat_e16,hbi_e31] at hd9
 rw [hd9.1]
 have hs57:=(((hs56.pick 2 rfl rfl).pick 2 rfl rfl).pick 2 rfl rfl)
 have hs58:St H _ (obj g_m 56 (rCells nr48.n vb49 vt51 nr48.df nr48.lost)::row 37 3 vb49 nr48.ps.length cb50::row 3 1 vt51 nr48.bi.length ct52::(m.doubleR 5 i v_55) ++ (L)):=St.eqL hs57 (by rw [doubleR_yes hin,hat_e16]; try rfl)
 exact ⟨nr48,vb49,cb50,vt51,ct52,v_55,rfl,ok53,(by rw [hd9.2]; exact hnr54),(((hs58.pick 2 rfl rfl).pick 2 rfl rfl).pick 2 rfl rfl)⟩
set_option maxHeartbeats 8000000 in
theorem rturn_spec {H:Hp} {w:World} {L:List Res} {g_m:Nat} {m:RS} {vb_m:Value} {cb_m:List Value} {vt_m:Value} {ct_m:List Value} {i:Int} (hs:St H w (obj g_m 56 (rCells m.n vb_m vt_m m.df m.lost)::row 37 3 vb_m m.ps.length cb_m::row 3 1 vt_m m.bi.length ct_m::(m.pkR 5 i) ++ (L))) (ok_m:RSOk H m vb_m cb_m vt_m ct_m) (b_i:IB i) (k:Int) (b_k:IB k):Calls Tryd.prog 45 #[.pointer (some ⟨g_m,0,none⟩),.int .i64 i,.int .i64 k] w (fun e w' => ∃ (m':RS) (vb_m':Value) (cb_m':List Value) (vt_m':Value) (ct_m':List Value),e = .returned (.int .i64 (m.turnE i k))∧RSOk H m' vb_m' cb_m' vt_m' ct_m'∧m' = m.turnS i k∧St H w' (obj g_m 56 (rCells m'.n vb_m' vt_m' m'.df m'.lost)::row 37 3 vb_m' m'.ps.length cb_m'::row 3 1 vt_m' m'.bi.length ct_m'::(m'.pkR 5 i) ++ (L))):=by
 have hn1_m:=ok_m.n1
 have hn16_m:=ok_m.n16
 have hlen_m:=ok_m.len
 have hmax_m:=ok_m.max
 have hl0_m:=ok_m.l0
 obtain ⟨b_i1,b_i2⟩:=b_i
 obtain ⟨b_k1,b_k2⟩:=b_k
 refine enter (args:=[.pointer (some ⟨g_m,0,none⟩),.int .i64 i,.int .i64 k]) (N:=75) Tryd.func45 rfl rfl rfl ?_
 refine c_seq ?_
 refine c_region ?_
 refine st (v:=.int .i64 0) (x_assign .const) ?_
 refine c_nil ?_
 refine n_then ?_
 refine c_seq ?_
 refine c_seq ?_
 refine c_region ?_
 refine st (v:=.int .i64 i) (x_move (.tmp rfl rfl)) ?_
 refine st (v:=.bool (decide ((i:Int) < 0))) (x_lss (k:=.i64) (a:=i) (b:=0) (.tmp rfl rfl) .const) ?_
 refine st (v:=.bool (decide ((i:Int) < 0))) (x_move (.tmp rfl rfl)) ?_
 rcases Bool.eq_false_or_eq_true (decide ((i:Int) < 0)) with hc1 | hc1
 have hp1:(i:Int) < 0:=of_decide_eq_true hc1
 refine g_no (yl (dj:=10) (b:=true) rfl rfl (congrArg Value.bool hc1)) rfl ?_
 refine g_no (yl (dj:=10) (b:=true) rfl rfl (congrArg Value.bool hc1)) rfl ?_
 refine g_no (yl (dj:=10) (b:=true) rfl rfl (congrArg Value.bool hc1)) rfl ?_
 refine g_no (yl (dj:=10) (b:=true) rfl rfl (congrArg Value.bool hc1)) rfl ?_
 refine g_no (yl (dj:=10) (b:=true) rfl rfl (congrArg Value.bool hc1)) rfl ?_
 refine g_no (yl (dj:=10) (b:=true) rfl rfl (congrArg Value.bool hc1)) rfl ?_
 refine g_no (yl (dj:=10) (b:=true) rfl rfl (congrArg Value.bool hc1)) rfl ?_
 refine st (v:=.bool true) (x_pick_t (.tmp rfl (congrArg Value.bool hc1)) .const) ?_
 refine st (v:=.bool true) (x_move (.tmp rfl rfl)) ?_
 refine g_no (yl (dj:=19) (b:=true) rfl rfl rfl) rfl ?_
 refine g_no (yl (dj:=19) (b:=true) rfl rfl rfl) rfl ?_
 refine st (v:=.bool true) (x_pick_t (.tmp rfl rfl) .const) ?_
 refine st (v:=.bool true) (x_move (.tmp rfl rfl)) ?_
 refine g_no (yl (dj:=23) (b:=true) rfl rfl rfl) rfl ?_
 refine g_no (yl (dj:=23) (b:=true) rfl rfl rfl) rfl ?_
 refine g_no (yl (dj:=23) (b:=true) rfl rfl rfl) rfl ?_
 refine g_no (yl (dj:=23) (b:=true) rfl rfl rfl) rfl ?_
 refine g_no (yl (dj:=23) (b:=true) rfl rfl rfl) rfl ?_
 refine g_no (yl (dj:=23) (b:=true) rfl rfl rfl) rfl ?_
 refine g_no (yl (dj:=23) (b:=true) rfl rfl rfl) rfl ?_
 refine g_no (yl (dj:=23) (b:=true) rfl rfl rfl) rfl ?_
 refine g_no (yl (dj:=23) (b:=true) rfl rfl rfl) rfl ?_
 refine g_no (yl (dj:=23) (b:=true) rfl rfl rfl) rfl ?_
 refine g_no (yl (dj:=23) (b:=true) rfl rfl rfl) rfl ?_
 refine g_no (yl (dj:=23) (b:=true) rfl rfl rfl) rfl ?_
 refine st (v:=.bool true) (x_pick_t (.tmp rfl rfl) .const) ?_
 refine c_nil ?_
 refine n_then ?_
 refine c_cond_t (t:=true) (.tmp rfl rfl) rfl ?_
 refine c_seq ?_
 refine c_region ?_
 refine st (v:=.int .i64 1) (x_assign .const) ?_
 refine c_nil ?_
 refine n_then ?_
 refine c_ret ?_
 refine r_then ?_
 refine leave_ret (res_one (v:=.int .i64 1) rfl (.mk rfl rfl)) ?_
 have hno:¬ m.turnOk i k:=fun h => by have h1:=h.1.1; have h2:=h.1.2; have h3:=h.2; omega
 have ht9:=rturn_no hno
 rw [ht9.1]
 exact ⟨m,vb_m,cb_m,vt_m,ct_m,rfl,ok_m,ht9.2.symm,(((hs.pick 2 rfl rfl).pick 2 rfl rfl).pick 2 rfl rfl)⟩
 have hp1:¬ ((i:Int) < 0):=of_decide_eq_false hc1
 refine g_yes (yl (dj:=10) (b:=false) rfl rfl (congrArg Value.bool hc1)) ?_
 refine st (v:=.int .i64 i) (x_move (.tmp rfl rfl)) ?_
 refine g_yes (yl (dj:=10) (b:=false) rfl rfl (congrArg Value.bool hc1)) ?_
 refine st (v:=.pointer (some ⟨g_m,0,none⟩)) (x_move (.tmp rfl rfl)) ?_
 refine g_yes (yl (dj:=10) (b:=false) rfl rfl (congrArg Value.bool hc1)) ?_
 refine st (v:=.pointer (some ⟨g_m,0,none⟩)) (x_nilCheck (.tmp rfl rfl)) ?_
 refine g_yes (yl (dj:=10) (b:=false) rfl rfl (congrArg Value.bool hc1)) ?_
 refine st (v:=.pointer (some ⟨g_m,0 + 1,none⟩)) (fa56_1 (.tmp rfl rfl)) ?_
 refine g_yes (yl (dj:=10) (b:=false) rfl rfl (congrArg Value.bool hc1)) ?_
 refine st (v:=vb_m) (ld51 (.tmp rfl rfl) (hs.cell 0 rfl (0 + 1) rfl)) ?_
 refine g_yes (yl (dj:=10) (b:=false) rfl rfl (congrArg Value.bool hc1)) ?_
 obtain ⟨A2,c3,hv4,hc5⟩:=ok_m.okb.slice
 refine st (v:=.int .i64 ((m.ps.length:Nat):Int)) (x_len (n:=m.ps.length) Tryd.underlying51 (.tmp rfl hv4)) ?_
 refine g_yes (yl (dj:=10) (b:=false) rfl rfl (congrArg Value.bool hc1)) ?_
 refine st (v:=.bool (decide ((((m.ps.length:Nat):Int):Int) ≤ i))) (x_geq (k:=.i64) (a:=i) (b:=((m.ps.length:Nat):Int)) (.tmp rfl rfl) (.tmp rfl rfl)) ?_
 refine st (v:=.bool (decide ((((m.ps.length:Nat):Int):Int) ≤ i))) (x_pick_f (.tmp rfl (congrArg Value.bool hc1)) (.tmp rfl rfl)) ?_
 refine st (v:=.bool (decide ((((m.ps.length:Nat):Int):Int) ≤ i))) (x_move (.tmp rfl rfl)) ?_
 rcases Bool.eq_false_or_eq_true (decide ((((m.ps.length:Nat):Int):Int) ≤ i)) with hc6 | hc6
 have hp6:(((m.ps.length:Nat):Int):Int) ≤ i:=of_decide_eq_true hc6
 refine g_no (yl (dj:=19) (b:=true) rfl rfl (congrArg Value.bool hc6)) rfl ?_
 refine g_no (yl (dj:=19) (b:=true) rfl rfl (congrArg Value.bool hc6)) rfl ?_
 refine st (v:=.bool true) (x_pick_t (.tmp rfl (congrArg Value.bool hc6)) .const) ?_
 refine st (v:=.bool true) (x_move (.tmp rfl rfl)) ?_
 refine g_no (yl (dj:=23) (b:=true) rfl rfl rfl) rfl ?_
 refine g_no (yl (dj:=23) (b:=true) rfl rfl rfl) rfl ?_
 refine g_no (yl (dj:=23) (b:=true) rfl rfl rfl) rfl ?_
 refine g_no (yl (dj:=23) (b:=true) rfl rfl rfl) rfl ?_
 refine g_no (yl (dj:=23) (b:=true) rfl rfl rfl) rfl ?_
 refine g_no (yl (dj:=23) (b:=true) rfl rfl rfl) rfl ?_
 refine g_no (yl (dj:=23) (b:=true) rfl rfl rfl) rfl ?_
 refine g_no (yl (dj:=23) (b:=true) rfl rfl rfl) rfl ?_
 refine g_no (yl (dj:=23) (b:=true) rfl rfl rfl) rfl ?_
 refine g_no (yl (dj:=23) (b:=true) rfl rfl rfl) rfl ?_
 refine g_no (yl (dj:=23) (b:=true) rfl rfl rfl) rfl ?_
 refine g_no (yl (dj:=23) (b:=true) rfl rfl rfl) rfl ?_
 refine st (v:=.bool true) (x_pick_t (.tmp rfl rfl) .const) ?_
 refine c_nil ?_
 refine n_then ?_
 refine c_cond_t (t:=true) (.tmp rfl rfl) rfl ?_
 refine c_seq ?_
 refine c_region ?_
 refine st (v:=.int .i64 1) (x_assign .const) ?_
 refine c_nil ?_
 refine n_then ?_
 refine c_ret ?_
 refine r_then ?_
 refine leave_ret (res_one (v:=.int .i64 1) rfl (.mk rfl rfl)) ?_
 have hno:¬ m.turnOk i k:=fun h => by have h1:=h.1.1; have h2:=h.1.2; have h3:=h.2; omega
 have ht9:=rturn_no hno
 rw [ht9.1]
 exact ⟨m,vb_m,cb_m,vt_m,ct_m,rfl,ok_m,ht9.2.symm,(((hs.pick 2 rfl rfl).pick 2 rfl rfl).pick 2 rfl rfl)⟩
 have hp6:¬ ((((m.ps.length:Nat):Int):Int) ≤ i):=of_decide_eq_false hc6
 refine g_yes (yl (dj:=19) (b:=false) rfl rfl (congrArg Value.bool hc6)) ?_
 refine st (v:=.int .i64 k) (x_move (.tmp rfl rfl)) ?_
 refine g_yes (yl (dj:=19) (b:=false) rfl rfl (congrArg Value.bool hc6)) ?_
 refine st (v:=.bool (decide ((k:Int) < 0))) (x_lss (k:=.i64) (a:=k) (b:=0) (.tmp rfl rfl) .const) ?_
 refine st (v:=.bool (decide ((k:Int) < 0))) (x_pick_f (.tmp rfl (congrArg Value.bool hc6)) (.tmp rfl rfl)) ?_
 refine st (v:=.bool (decide ((k:Int) < 0))) (x_move (.tmp rfl rfl)) ?_
 rcases Bool.eq_false_or_eq_true (decide ((k:Int) < 0)) with hc7 | hc7
 have hp7:(k:Int) < 0:=of_decide_eq_true hc7
 refine g_no (yl (dj:=23) (b:=true) rfl rfl (congrArg Value.bool hc7)) rfl ?_
 refine g_no (yl (dj:=23) (b:=true) rfl rfl (congrArg Value.bool hc7)) rfl ?_
 refine g_no (yl (dj:=23) (b:=true) rfl rfl (congrArg Value.bool hc7)) rfl ?_
 refine g_no (yl (dj:=23) (b:=true) rfl rfl (congrArg Value.bool hc7)) rfl ?_
 refine g_no (yl (dj:=23) (b:=true) rfl rfl (congrArg Value.bool hc7)) rfl ?_
 refine g_no (yl (dj:=23) (b:=true) rfl rfl (congrArg Value.bool hc7)) rfl ?_
 refine g_no (yl (dj:=23) (b:=true) rfl rfl (congrArg Value.bool hc7)) rfl ?_
 refine g_no (yl (dj:=23) (b:=true) rfl rfl (congrArg Value.bool hc7)) rfl ?_
 refine g_no (yl (dj:=23) (b:=true) rfl rfl (congrArg Value.bool hc7)) rfl ?_
 refine g_no (yl (dj:=23) (b:=true) rfl rfl (congrArg Value.bool hc7)) rfl ?_
 refine g_no (yl (dj:=23) (b:=true) rfl rfl (congrArg Value.bool hc7)) rfl ?_
 refine g_no (yl (dj:=23) (b:=true) rfl rfl (congrArg Value.bool hc7)) rfl ?_
 refine st (v:=.bool true) (x_pick_t (.tmp rfl (congrArg Value.bool hc7)) .const) ?_
 refine c_nil ?_
 refine n_then ?_
 refine c_cond_t (t:=true) (.tmp rfl rfl) rfl ?_
 refine c_seq ?_
 refine c_region ?_
 refine st (v:=.int .i64 1) (x_assign .const) ?_
 refine c_nil ?_
 refine n_then ?_
 refine c_ret ?_
 refine r_then ?_
 refine leave_ret (res_one (v:=.int .i64 1) rfl (.mk rfl rfl)) ?_
 have hno:¬ m.turnOk i k:=fun h => by have h1:=h.1.1; have h2:=h.1.2; have h3:=h.2; omega
 have ht9:=rturn_no hno
 rw [ht9.1]
 exact ⟨m,vb_m,cb_m,vt_m,ct_m,rfl,ok_m,ht9.2.symm,(((hs.pick 2 rfl rfl).pick 2 rfl rfl).pick 2 rfl rfl)⟩
 have hp7:¬ ((k:Int) < 0):=of_decide_eq_false hc7
 refine g_yes (yl (dj:=23) (b:=false) rfl rfl (congrArg Value.bool hc7)) ?_
 obtain ⟨kn,hkn⟩:∃ q:Nat,k = (q:Int):=⟨k.toNat,by omega⟩
 skip
 refine st (v:=.int .i64 ((kn:Nat):Int)) (x_move (.tmp rfl (congrArg (Value.int .i64) hkn))) ?_
 refine g_yes (yl (dj:=23) (b:=false) rfl rfl (congrArg Value.bool hc7)) ?_
 refine st (v:=.int .i64 (((kn / 8):Nat):Int)) (x_quoN (k:=.i64) (m:=kn) (n:=8) (.tmp rfl rfl) .const (by omega) (.inl ⟨by omega,rfl,by omega⟩)) ?_
 refine g_yes (yl (dj:=23) (b:=false) rfl rfl (congrArg Value.bool hc7)) ?_
 refine st (v:=.pointer (some ⟨g_m,0,none⟩)) (x_move (.tmp rfl rfl)) ?_
 refine g_yes (yl (dj:=23) (b:=false) rfl rfl (congrArg Value.bool hc7)) ?_
 refine st (v:=.pointer (some ⟨g_m,0,none⟩)) (x_nilCheck (.tmp rfl rfl)) ?_
 refine g_yes (yl (dj:=23) (b:=false) rfl rfl (congrArg Value.bool hc7)) ?_
 refine st (v:=.pointer (some ⟨g_m,0 + 1,none⟩)) (fa56_1 (.tmp rfl rfl)) ?_
 refine g_yes (yl (dj:=23) (b:=false) rfl rfl (congrArg Value.bool hc7)) ?_
 refine st (v:=vb_m) (ld51 (.tmp rfl rfl) (hs.cell 0 rfl (0 + 1) rfl)) ?_
 refine g_yes (yl (dj:=23) (b:=false) rfl rfl (congrArg Value.bool hc7)) ?_
 refine st (v:=.int .i64 i) (x_move (.tmp rfl rfl)) ?_
 refine g_yes (yl (dj:=23) (b:=false) rfl rfl (congrArg Value.bool hc7)) ?_
 obtain ⟨g8,c9,hv10⟩:=ok_m.okb.pos (by omega)
 obtain ⟨e11,cs12,hx13,hr14,hsub15⟩:=Kn.rows_get (i:=i.toNat) ok_m.hkb (by omega)
 obtain ⟨rfl,⟨b16,b17⟩,⟨b18,b19⟩,ok20,sm21,lb22⟩:=hr14
 have hat_e11:m.at_ i = e11:=rat_is hx13
 have hpn_e11:=rpin_at ok_m.pin hx13
 refine st (v:=.pointer (some ⟨g8,(i.toNat * 3),none⟩)) (ixo51 (.tmp rfl hv10) rfl (i:=i) (.tmp rfl rfl) (by omega) (by omega) (by omega)) ?_
 refine g_yes (yl (dj:=23) (b:=false) rfl rfl (congrArg Value.bool hc7)) ?_
 refine st (v:=.pointer (some ⟨g8,(i.toNat * 3) + 2,none⟩)) (fa37_2 (.tmp rfl rfl)) ?_
 refine g_yes (yl (dj:=23) (b:=false) rfl rfl (congrArg Value.bool hc7)) ?_
 refine st (v:=e11.v) (ld22 (.tmp rfl rfl) ((hs.rowAt 1 rfl hv10 (i.toNat * 3) hsub15).cell 2 rfl)) ?_
 refine g_yes (yl (dj:=23) (b:=false) rfl rfl (congrArg Value.bool hc7)) ?_
 obtain ⟨A23,c24,hv25,hc26⟩:=ok20.slice
 refine st (v:=.int .i64 ((e11.bs.length:Nat):Int)) (x_len (n:=e11.bs.length) Tryd.underlying22 (.tmp rfl hv25)) ?_
 refine g_yes (yl (dj:=23) (b:=false) rfl rfl (congrArg Value.bool hc7)) ?_
 refine st (v:=.bool (decide ((((e11.bs.length:Nat):Int):Int) ≤ (((kn / 8):Nat):Int)))) (x_geq (k:=.i64) (a:=(((kn / 8):Nat):Int)) (b:=((e11.bs.length:Nat):Int)) (.tmp rfl rfl) (.tmp rfl rfl)) ?_
 refine st (v:=.bool (decide ((((e11.bs.length:Nat):Int):Int) ≤ (((kn / 8):Nat):Int)))) (x_pick_f (.tmp rfl (congrArg Value.bool hc7)) (.tmp rfl rfl)) ?_
 refine c_nil ?_
 refine n_then ?_
 rcases Bool.eq_false_or_eq_true (decide ((((e11.bs.length:Nat):Int):Int) ≤ (((kn / 8):Nat):Int))) with hc27 | hc27
 have hp27:(((e11.bs.length:Nat):Int):Int) ≤ (((kn / 8):Nat):Int):=of_decide_eq_true hc27
 refine c_cond_t (t:=true) (.tmp rfl (congrArg Value.bool hc27)) rfl ?_
 refine c_seq ?_
 refine c_region ?_
 refine st (v:=.int .i64 1) (x_assign .const) ?_
 refine c_nil ?_
 refine n_then ?_
 refine c_ret ?_
 refine r_then ?_
 refine leave_ret (res_one (v:=.int .i64 1) rfl (.mk rfl rfl)) ?_
 have hno:¬ m.turnOk i k:=fun h => by have h1:=h.1.1; have h2:=h.1.2; have h3:=h.2; rw [hat_e11] at h3; omega
 have ht9:=rturn_no hno
 rw [ht9.1]
 exact ⟨m,vb_m,cb_m,vt_m,ct_m,rfl,ok_m,ht9.2.symm,(((hs.pick 2 rfl rfl).pick 2 rfl rfl).pick 2 rfl rfl)⟩
 have hp27:¬ ((((e11.bs.length:Nat):Int):Int) ≤ (((kn / 8):Nat):Int)):=of_decide_eq_false hc27
 refine c_cond_f (t:=false) (.tmp rfl (congrArg Value.bool hc27)) rfl ?_
 refine c_skip ?_
 refine n_then ?_
 refine c_seq ?_
 refine c_seq ?_
 refine c_region ?_
 have hto:m.turnOk i k:=⟨⟨by omega,by omega⟩,by rw [hat_e11]; exact (show 0 ≤ k∧k < 8 * (e11.bs.length:Int) from ⟨by omega,by omega⟩)⟩
 have hbl:i.toNat < m.bi.length:=by omega
 refine st (v:=.pointer (some ⟨g_m,0,none⟩)) (x_move (.tmp rfl rfl)) ?_
 refine st (v:=.pointer (some ⟨g_m,0,none⟩)) (x_nilCheck (.tmp rfl rfl)) ?_
 refine st (v:=.pointer (some ⟨g_m,0 + 2,none⟩)) (fa56_2 (.tmp rfl rfl)) ?_
 refine st (v:=vt_m) (ld52 (.tmp rfl rfl) (hs.cell 0 rfl (0 + 2) rfl)) ?_
 refine st (v:=.int .i64 i) (x_move (.tmp rfl rfl)) ?_
 obtain ⟨g28,c29,hv30⟩:=ok_m.okt.pos (by omega)
 obtain ⟨e31,cs32,hx33,hr34,hsub35⟩:=Kn.rows_get (i:=i.toNat) ok_m.hkt (by omega)
 obtain ⟨rfl,⟨b36,b37⟩⟩:=hr34
 have hbi_e31:m.bi.getD i.toNat 0 = e31:=by rw [List.getD_eq_getElem?_getD,hx33]; rfl
 refine st (v:=.pointer (some ⟨g28,(i.toNat * 1),none⟩)) (ixo52 (.tmp rfl hv30) rfl (i:=i) (.tmp rfl rfl) (by omega) (by omega) (by omega)) ?_
 refine st (v:=.int .i64 e31) (ld3 (.tmp rfl rfl) ((hs.rowAt 2 rfl hv30 (i.toNat * 1) hsub35).cell 0 rfl)) ?_
 refine st (v:=.bool (decide ((2:Int) ≤ e31))) (x_geq (k:=.i64) (a:=e31) (b:=2) (.tmp rfl rfl) .const) ?_
 refine c_nil ?_
 refine n_then ?_
 rcases Bool.eq_false_or_eq_true (decide ((2:Int) ≤ e31)) with hc38 | hc38
 have hp38:(2:Int) ≤ e31:=of_decide_eq_true hc38
 refine c_cond_t (t:=true) (.tmp rfl (congrArg Value.bool hc38)) rfl ?_
 refine c_seq ?_
 refine c_region ?_
 refine st (v:=.int .i64 8) (x_assign .const) ?_
 refine c_nil ?_
 refine n_then ?_
 refine c_ret ?_
 refine r_then ?_
 refine leave_ret (res_one (v:=.int .i64 8) rfl (.mk rfl rfl)) ?_
 have ht9:=rturn_full hto (by rw [hbi_e31]; omega)
 rw [ht9.1]
 exact ⟨m,vb_m,cb_m,vt_m,ct_m,rfl,ok_m,ht9.2.symm,(((hs.pick 2 rfl rfl).pick 2 rfl rfl).pick 2 rfl rfl)⟩
 have hp38:¬ ((2:Int) ≤ e31):=of_decide_eq_false hc38
 refine c_cond_f (t:=false) (.tmp rfl (congrArg Value.bool hc38)) rfl ?_
 refine c_skip ?_
 refine n_then ?_
 refine c_seq ?_
 refine c_region ?_
 refine st (v:=.pointer (some ⟨g_m,0,none⟩)) (x_move (.tmp rfl rfl)) ?_
 refine st (v:=.pointer (some ⟨g_m,0,none⟩)) (x_nilCheck (.tmp rfl rfl)) ?_
 refine st (v:=.pointer (some ⟨g_m,0 + 2,none⟩)) (fa56_2 (.tmp rfl rfl)) ?_
 refine st (v:=vt_m) (ld52 (.tmp rfl rfl) (hs.cell 0 rfl (0 + 2) rfl)) ?_
 refine st (v:=.int .i64 i) (x_move (.tmp rfl rfl)) ?_
 obtain ⟨g39,c40,hv41⟩:=ok_m.okt.pos (by omega)
 refine st (v:=.pointer (some ⟨g39,(i.toNat * 1),none⟩)) (ixo52 (.tmp rfl hv41) rfl (i:=i) (.tmp rfl rfl) (by omega) (by omega) (by omega)) ?_
 refine st (v:=.int .i64 e31) (ld3 (.tmp rfl rfl) ((hs.rowAt 2 rfl hv41 (i.toNat * 1) hsub35).cell 0 rfl)) ?_
 refine st (v:=.int .i64 (e31 + 1)) (x_add (k:=.i64) (a:=e31) (b:=1) (.tmp rfl rfl) .const (w64 (by omega) (by omega))) ?_
 obtain ⟨g42,c43,hv44⟩:=ok_m.okt.pos (by omega)
 refine st (v:=.pointer (some ⟨g42,(i.toNat * 1),none⟩)) (ixo52 (.tmp rfl hv44) rfl (i:=i) (.tmp rfl rfl) (by omega) (by omega) (by omega)) ?_
 have hs45:St H _ (row 3 1 vt_m m.bi.length ct_m::obj g_m 56 (rCells m.n vb_m vt_m m.df m.lost)::row 37 3 vb_m m.ps.length cb_m::(m.pkR 5 i) ++ (L)):=hs.pick 2 rfl rfl
 have hl51:i.toNat * 1 + 1 ≤ ct_m.length:=by have h1:=(ok_m.hkt).1; have h2:kI.sz = 1:=rfl; rw [h2] at h1; omega
 have hr50:kI.rep H (e31 + 1) [.int .i64 (e31 + 1)]:=⟨rfl,(show IB (e31 + 1) from ⟨by omega,by omega⟩)⟩
 refine st_m0 (stor3 hs45 hv44 (i:=(i.toNat * 1)) (xs':=splice ct_m (i.toNat * 1) [.int .i64 (e31 + 1)]) (.tmp rfl rfl) (u:=.int .i64 (e31 + 1)) (.tmp rfl rfl) rfl (by omega) one1 rfl) ?_
 rintro w46 hs47
 have hk49:=Kn.rows_set (d:=kI.toKn) ok_m.hkt (i:=i.toNat) (by omega) hr50
 have ok48:=ok_m.okt.splice (i:=i.toNat * 1) (vs:=[.int .i64 (e31 + 1)]) (by simpa using hl51)
 have hn52:(m.bi.set i.toNat (e31 + 1)).length = m.bi.length:=List.length_set
 have ok53:RowOk kI.sz vt_m (m.bi.set i.toNat (e31 + 1)).length (splice ct_m (i.toNat * 1) [.int .i64 (e31 + 1)]):=by rw [hn52]; exact ok48
 have hs54:St H w46 (row 3 1 vt_m ((m.bi.set i.toNat (e31 + 1)).length) (splice ct_m (i.toNat * 1) [.int .i64 (e31 + 1)])::obj g_m 56 (rCells m.n vb_m vt_m m.df m.lost)::row 37 3 vb_m m.ps.length cb_m::(m.pkR 5 i) ++ (L)):=by rw [hn52]; exact hs47
 refine c_nil ?_
 refine n_then ?_
 refine c_seq ?_
 refine c_region ?_
 refine st (v:=.pointer (some ⟨g_m,0,none⟩)) (x_move (.tmp rfl rfl)) ?_
 refine st (v:=.pointer (some ⟨g_m,0,none⟩)) (x_nilCheck (.tmp rfl rfl)) ?_
 refine st (v:=.pointer (some ⟨g_m,0 + 1,none⟩)) (fa56_1 (.tmp rfl rfl)) ?_
 refine st (v:=vb_m) (ld51 (.tmp rfl rfl) (hs54.cell 1 rfl (0 + 1) rfl)) ?_
 refine st (v:=.int .i64 i) (x_move (.tmp rfl rfl)) ?_
 obtain ⟨g55,c56,hv57⟩:=ok_m.okb.pos (by omega)
 refine st (v:=.pointer (some ⟨g55,(i.toNat * 3),none⟩)) (ixo51 (.tmp rfl hv57) rfl (i:=i) (.tmp rfl rfl) (by omega) (by omega) (by omega)) ?_
 refine st (v:=.pointer (some ⟨g55,(i.toNat * 3) + 2,none⟩)) (fa37_2 (.tmp rfl rfl)) ?_
 refine st (v:=e11.v) (ld22 (.tmp rfl rfl) ((hs54.rowAt 2 rfl hv57 (i.toNat * 3) hsub15).cell 2 rfl)) ?_
 have hs58:St H _ (row 3 1 vt_m ((m.bi.set i.toNat (e31 + 1)).length) (splice ct_m (i.toNat * 1) [.int .i64 (e31 + 1)])::obj g_m 56 (rCells m.n vb_m vt_m m.df m.lost)::row 37 3 vb_m m.ps.length cb_m::row 5 1 e11.v e11.bs.length (e11.bs.map encB)::L):=St.eqL hs54 (by rw [pkR_yes hto.1,hat_e11]; rfl)
 skip
 refine st (v:=e11.v) (x_assign (.tmp rfl rfl)) ?_
 refine c_nil ?_
 refine n_then ?_
 refine c_seq ?_
 refine t_region (L:=row 3 1 vt_m ((m.bi.set i.toNat (e31 + 1)).length) (splice ct_m (i.toNat * 1) [.int .i64 (e31 + 1)])::obj g_m 56 (rCells m.n vb_m vt_m m.df m.lost)::row 37 3 vb_m m.ps.length cb_m::row 5 1 e11.v e11.bs.length (e11.bs.map encB)::L) (L':=row 3 1 vt_m ((m.bi.set i.toNat (e31 + 1)).length) (splice ct_m (i.toNat * 1) [.int .i64 (e31 + 1)])::obj g_m 56 (rCells m.n vb_m vt_m m.df m.lost)::row 37 3 vb_m m.ps.length cb_m::row 5 1 e11.v e11.bs.length (e11.bs.map encB)::L) (Z:=[13]) (F:=[]) (pl:=(.q 0 (.q 1 (.q 2 (.q 3 (.q 4 (.q 5 (.q 6 (.q 7 (.q 8 (.q 9 (.q 10 (.q 11 (.q 12 (.e 13 .done))))))))))))))) mixed hs58 (fun u hu => hu) (by kernel_rfl) ?_
 intro w59 hs60
 refine t_st (k:=0) (v:=e11.v) rfl rfl (fun w hs => (x_move (.tmp rfl rfl))) ?_
 refine t_st (k:=1) (v:=.int .i64 ((kn:Nat):Int)) rfl rfl (fun w hs => (x_move (.tmp rfl (congrArg (Value.int .i64) hkn)))) ?_
 refine t_st (k:=2) (v:=.int .i64 (((kn / 8):Nat):Int)) rfl rfl (fun w hs => (x_quoN (k:=.i64) (m:=kn) (n:=8) (.tmp rfl rfl) .const (by omega) (.inl ⟨by omega,rfl,by omega⟩))) ?_
 refine t_st (k:=3) (v:=e11.v) rfl rfl (fun w hs => (x_move (.tmp rfl rfl))) ?_
 refine t_st (k:=4) (v:=.int .i64 ((kn:Nat):Int)) rfl rfl (fun w hs => (x_move (.tmp rfl (congrArg (Value.int .i64) hkn)))) ?_
 refine t_st (k:=5) (v:=.int .i64 (((kn / 8):Nat):Int)) rfl rfl (fun w hs => (x_quoN (k:=.i64) (m:=kn) (n:=8) (.tmp rfl rfl) .const (by omega) (.inl ⟨by omega,rfl,by omega⟩))) ?_
 obtain ⟨g61,c62,hv63⟩:=ok20.pos (by omega)
 refine t_st (k:=6) (v:=.pointer (some ⟨g61,((kn / 8)),none⟩)) rfl rfl (fun w hs => (ixo22 (.tmp rfl hv63) rfl (i:=(((kn / 8):Nat):Int)) (.tmp rfl rfl) (by omega) (by omega) (by omega))) ?_
 obtain ⟨z64,hz65⟩:∃ x,e11.bs[(kn / 8)]? = some x:=⟨_,List.getElem?_eq_getElem (by omega)⟩
 refine t_st (k:=7) (v:=.int .u8 ((z64:Nat):Int)) rfl rfl (fun w hs => (ld5 (.tmp rfl rfl) (hs.rowEnc (enc:=encB) 3 rfl hv63 (kn / 8) hz65))) ?_
 skip
 refine t_st (k:=8) (v:=.int .i64 ((kn:Nat):Int)) rfl rfl (fun w hs => (x_move (.tmp rfl (congrArg (Value.int .i64) hkn)))) ?_
 refine t_st (k:=9) (v:=.int .i64 (((kn % 8):Nat):Int)) rfl rfl (fun w hs => (x_remN (k:=.i64) (m:=kn) (n:=8) (.tmp rfl rfl) .const (by omega))) ?_
 have hb66:(1 * 2 ^ (kn % 8) % 256) < 256:=Nat.mod_lt _ (by decide)
 refine t_st (k:=10) (v:=.int .u8 (((1 * 2 ^ (kn % 8) % 256):Nat):Int)) rfl rfl (fun w hs => (x_shl (k:=.u8) (m:=1) (b:=(((kn % 8):Nat):Int)) rfl .const (.tmp rfl rfl) (by omega))) ?_
 have hb67:(z64 ^^^ (1 * 2 ^ (kn % 8) % 256)) < 256:=Nat.xor_lt_two_pow (n:=8) (sm21 _ (List.mem_of_getElem? hz65)) hb66
 refine t_st (k:=11) (v:=.int .u8 (((z64 ^^^ (1 * 2 ^ (kn % 8) % 256)):Nat):Int)) rfl rfl (fun w hs => (x_xor (k:=.u8) (m:=z64) (n:=(1 * 2 ^ (kn % 8) % 256)) rfl (.tmp rfl rfl) (.tmp rfl rfl) (show _ < 2 ^ 8 from (sm21 _ (List.mem_of_getElem? hz65))) (show _ < 2 ^ 8 from hb66))) ?_
 obtain ⟨g68,c69,hv70⟩:=ok20.pos (by omega)
 refine t_st (k:=12) (v:=.pointer (some ⟨g68,((kn / 8)),none⟩)) rfl rfl (fun w hs => (ixo22 (.tmp rfl hv70) rfl (i:=(((kn / 8):Nat):Int)) (.tmp rfl rfl) (by omega) (by omega) (by omega))) ?_
 refine t_eff (k:=13) rfl ?_
 have hs71:=hs60.p3
 refine st_m0 (stor5 hs71 hv70 (i:=(kn / 8)) (.tmp rfl rfl) (.tmp rfl rfl) rfl (by simp; omega) one1 (splice_set (by omega))) ?_
 rintro w72 hs73
 have ok74:=ok20.setB (i:=(kn / 8)) (a:=(z64 ^^^ (1 * 2 ^ (kn % 8) % 256)))
 refine t_new (S':=fun u => St H u (row 5 1 e11.v e11.bs.length ((e11.bs.set (kn / 8) (z64 ^^^ (1 * 2 ^ (kn % 8) % 256))).map encB)::row 3 1 vt_m ((m.bi.set i.toNat (e31 + 1)).length) (splice ct_m (i.toNat * 1) [.int .i64 (e31 + 1)])::obj g_m 56 (rCells m.n vb_m vt_m m.df m.lost)::row 37 3 vb_m m.ps.length cb_m::L)) rfl hs73 ?_
 refine t_nil ?_
 refine n_then ?_
 refine c_seq ?_
 refine c_region ?_
 refine st (v:=.int .i64 0) (x_assign .const) ?_
 refine c_nil ?_
 refine n_then ?_
 refine c_ret ?_
 refine leave_ret (res_one (v:=.int .i64 0) rfl (.mk rfl rfl)) ?_
 have ht9:=rturn_yes hto (by rw [hbi_e31]; omega)
 have hs75:=(((hs73.pick 1 rfl rfl).pick 3 rfl rfl).pick 3 rfl rfl)
 have hq8:(e11.bs.set (kn / 8) (z64 ^^^ (1 * 2 ^ (kn % 8) % 256))).length = e11.bs.length:=List.length_set
 have hln8:(m.ps.set i.toNat (Pk.mk e11.From e11.To e11.v (e11.bs.set (kn / 8) (z64 ^^^ (1 * 2 ^ (kn % 8) % 256))))).length = m.ps.length:=List.length_set
 have hk8:=pk_rows_set (q:=(Pk.mk e11.From e11.To e11.v (e11.bs.set (kn / 8) (z64 ^^^ (1 * 2 ^ (kn % 8) % 256))))) ok_m.hkb hx13 rfl rfl rfl hq8 (sm21.set _ hb67)
 have ok8:=ok_m.okb
 rw [← hln8] at ok8
 have hin8:RS.inn (RS.mk m.n m.df (m.ps.set i.toNat (Pk.mk e11.From e11.To e11.v (e11.bs.set (kn / 8) (z64 ^^^ (1 * 2 ^ (kn % 8) % 256))))) (m.bi.set i.toNat (e31 + 1)) m.lost) i:=⟨hto.1.1,by show i < ((List.set _ _ _).length:Int); rw [hln8]; exact hto.1.2⟩
 have hat8:RS.at_ (RS.mk m.n m.df (m.ps.set i.toNat (Pk.mk e11.From e11.To e11.v (e11.bs.set (kn / 8) (z64 ^^^ (1 * 2 ^ (kn % 8) % 256))))) (m.bi.set i.toNat (e31 + 1)) m.lost) i = (Pk.mk e11.From e11.To e11.v (e11.bs.set (kn / 8) (z64 ^^^ (1 * 2 ^ (kn % 8) % 256)))):=rat_is (by show (m.ps.set _ _)[_]? = _; rw [List.getElem?_set,if_pos rfl,if_pos (List.getElem?_eq_some_iff.1 hx13).1])
 have hs76:St H _ (obj g_m 56 (rCells m.n vb_m vt_m m.df m.lost)::row 37 3 vb_m ((m.ps.set i.toNat (Pk.mk e11.From e11.To e11.v (e11.bs.set (kn / 8) (z64 ^^^ (1 * 2 ^ (kn % 8) % 256))))).length) cb_m::row 3 1 vt_m ((m.bi.set i.toNat (e31 + 1)).length) (splice ct_m (i.toNat * 1) [.int .i64 (e31 + 1)])::(RS.pkR (RS.mk m.n m.df (m.ps.set i.toNat (Pk.mk e11.From e11.To e11.v (e11.bs.set (kn / 8) (z64 ^^^ (1 * 2 ^ (kn % 8) % 256))))) (m.bi.set i.toNat (e31 + 1)) m.lost) 5 i) ++ (L)):=St.eqL hs75 (by rw [pkR_yes hin8,hat8,hln8]; unfold pkRes; rw [hq8]; rfl)
 have hturn:turnB e11.bs k = (e11.bs.set (kn / 8) (z64 ^^^ (1 * 2 ^ (kn % 8) % 256))):=by unfold turnB; rw [show k.toNat = kn by omega,List.getD_eq_getElem?_getD,hz65]; rfl
 rw [ht9.1]
 have okn77:RSOk H (RS.mk m.n m.df (m.ps.set i.toNat (Pk.mk e11.From e11.To e11.v (e11.bs.set (kn / 8) (z64 ^^^ (1 * 2 ^ (kn % 8) % 256))))) (m.bi.set i.toNat (e31 + 1)) m.lost) vb_m cb_m vt_m (splice ct_m (i.toNat * 1) [.int .i64 (e31 + 1)]):=⟨hn1_m,hn16_m,ok_m.dl,ok8,hk8,ok53,hk49,(show (m.bi.set i.toNat (e31 + 1)).length = (m.ps.set i.toNat (Pk.mk e11.From e11.To e11.v (e11.bs.set (kn / 8) (z64 ^^^ (1 * 2 ^ (kn % 8) % 256))))).length by first | exact hlen_m | (rw [List.length_eraseIdx,List.length_eraseIdx,hlen_t]) | (simp; omega)),(show (m.ps.set i.toNat (Pk.mk e11.From e11.To e11.v (e11.bs.set (kn / 8) (z64 ^^^ (1 * 2 ^ (kn % 8) % 256))))).length ≤ 4096 by first | exact hmax_m | exact Nat.le_trans (List.length_eraseIdx_le ..) hmax_t | (simp; omega)),(show 0 ≤ m.lost by first | exact hl0_m | omega),(rpin_set ok_m.pin hx13 rfl rfl)⟩
 exact ⟨(RS.mk m.n m.df (m.ps.set i.toNat (Pk.mk e11.From e11.To e11.v (e11.bs.set (kn / 8) (z64 ^^^ (1 * 2 ^ (kn % 8) % 256))))) (m.bi.set i.toNat (e31 + 1)) m.lost),vb_m,cb_m,vt_m,(splice ct_m (i.toNat * 1) [.int .i64 (e31 + 1)]),rfl,okn77,(by rw [ht9.2,hat_e11,hbi_e31]; unfold Pk.turn; rw [hturn]),(((hs76.pick 2 rfl rfl).pick 2 rfl rfl).pick 2 rfl rfl)⟩
end Go.Proofs.YtojlmilkdijiaaaDoor
