/- Steps of the proofs over the functions of this seat, printed by a program (gen.py) and checked by Lean. -/
import Derived.Test.YtojlmilkdijiaaaDoorW01
import Derived.Test.YtojlmilkdijiaaaDoorW00
import Derived.Test.YtojlmilkdijiaaaDoorW02
set_option linter.unusedVariables false
set_option linter.unusedSimpArgs false
namespace Go.Proofs.YtojlmilkdijiaaaDoor
open Go Go.FM Go.Proofs
attribute [local irreducible] wpList wpQuiet wpS Code.wp Calls
set_option maxHeartbeats 8000000 in
theorem in_spec {H:Hp} {w:World} {L:List Res} {g_t:Nat} {t:NetS} {vb_t:Value} {cb_t:List Value} {vt_t:Value} {ct_t:List Value} (hs:St H w (netG 64 37 3 5 g_t t vb_t cb_t vt_t ct_t (L))) (ok_t:NetOk H t vb_t cb_t vt_t ct_t) (i:Int) (b_i:IB i):Calls Tryd.prog 31 #[.pointer (some ⟨g_t,0,none⟩),.int .i64 i] w (fun e w' => e = .returned (.bool (t.isIn i))∧St H w' (netG 64 37 3 5 g_t t vb_t cb_t vt_t ct_t (L))):=by
 have hn1_t:=ok_t.n1
 have hn16_t:=ok_t.n16
 have hlen_t:=ok_t.len
 have hmax_t:=ok_t.max
 have hl0_t:=ok_t.l0
 have hs:St H w (obj g_t 64 (netCells t.n vb_t vt_t t.hr t.lost)::row 37 3 vb_t t.ps.length cb_t::row 3 1 vt_t t.bi.length ct_t::(t.ps.map (pkRes 5) ++ L)):=hs
 obtain ⟨b_i1,b_i2⟩:=b_i
 refine enter (args:=[.pointer (some ⟨g_t,0,none⟩),.int .i64 i]) (N:=15) Tryd.func31 rfl rfl rfl ?_
 refine c_seq ?_
 refine c_region ?_
 refine st (v:=.bool false) (x_assign .const) ?_
 refine c_nil ?_
 refine n_then ?_
 refine c_seq ?_
 refine c_region ?_
 refine st (v:=.int .i64 i) (x_move (.tmp rfl rfl)) ?_
 refine st (v:=.bool (decide ((0:Int) ≤ i))) (x_geq (k:=.i64) (a:=i) (b:=0) (.tmp rfl rfl) .const) ?_
 refine st (v:=.bool (decide ((0:Int) ≤ i))) (x_move (.tmp rfl rfl)) ?_
 rcases Bool.eq_false_or_eq_true (decide ((0:Int) ≤ i)) with hc1 | hc1
 have hp1:(0:Int) ≤ i:=of_decide_eq_true hc1
 refine g_yes (yl (dj:=7) (b:=true) rfl rfl (congrArg Value.bool hc1)) ?_
 refine st (v:=.int .i64 i) (x_move (.tmp rfl rfl)) ?_
 refine g_yes (yl (dj:=7) (b:=true) rfl rfl (congrArg Value.bool hc1)) ?_
 refine st (v:=.pointer (some ⟨g_t,0,none⟩)) (x_move (.tmp rfl rfl)) ?_
 refine g_yes (yl (dj:=7) (b:=true) rfl rfl (congrArg Value.bool hc1)) ?_
 refine st (v:=.pointer (some ⟨g_t,0,none⟩)) (x_nilCheck (.tmp rfl rfl)) ?_
 refine g_yes (yl (dj:=7) (b:=true) rfl rfl (congrArg Value.bool hc1)) ?_
 refine st (v:=.pointer (some ⟨g_t,0 + 0,none⟩)) (fa64_0 (.tmp rfl rfl)) ?_
 refine g_yes (yl (dj:=7) (b:=true) rfl rfl (congrArg Value.bool hc1)) ?_
 refine st (v:=.int .i64 t.n) (ld3 (.tmp rfl rfl) (hs.cell 0 rfl (0 + 0) rfl)) ?_
 refine g_yes (yl (dj:=7) (b:=true) rfl rfl (congrArg Value.bool hc1)) ?_
 refine st (v:=.bool (decide ((i:Int) < t.n))) (x_lss (k:=.i64) (a:=i) (b:=t.n) (.tmp rfl rfl) (.tmp rfl rfl)) ?_
 refine st (v:=.bool (decide ((i:Int) < t.n))) (x_pick_t (.tmp rfl (congrArg Value.bool hc1)) (.tmp rfl rfl)) ?_
 refine st (v:=.bool (decide ((i:Int) < t.n))) (x_assign (.tmp rfl rfl)) ?_
 refine c_nil ?_
 refine n_then ?_
 refine c_ret ?_
 refine leave_ret (res_one (v:=.bool (decide ((i:Int) < t.n))) rfl (.mk rfl rfl)) ?_
 have hans2:(t.isIn i) = (decide ((i:Int) < t.n)):=by unfold NetS.isIn; first | exact decide_eq_false (by omega) | exact decide_eq_decide.2 (by omega)
 rw [hans2]
 exact ⟨rfl,(((hs.pick 2 rfl rfl).pick 2 rfl rfl).pick 2 rfl rfl)⟩
 have hp1:¬ ((0:Int) ≤ i):=of_decide_eq_false hc1
 refine g_no (yl (dj:=7) (b:=false) rfl rfl (congrArg Value.bool hc1)) rfl ?_
 refine g_no (yl (dj:=7) (b:=false) rfl rfl (congrArg Value.bool hc1)) rfl ?_
 refine g_no (yl (dj:=7) (b:=false) rfl rfl (congrArg Value.bool hc1)) rfl ?_
 refine g_no (yl (dj:=7) (b:=false) rfl rfl (congrArg Value.bool hc1)) rfl ?_
 refine g_no (yl (dj:=7) (b:=false) rfl rfl (congrArg Value.bool hc1)) rfl ?_
 refine g_no (yl (dj:=7) (b:=false) rfl rfl (congrArg Value.bool hc1)) rfl ?_
 refine st (v:=.bool false) (x_pick_f (.tmp rfl (congrArg Value.bool hc1)) .const) ?_
 refine st (v:=.bool false) (x_assign (.tmp rfl rfl)) ?_
 refine c_nil ?_
 refine n_then ?_
 refine c_ret ?_
 refine leave_ret (res_one (v:=.bool false) rfl (.mk rfl rfl)) ?_
 have hans3:(t.isIn i) = false:=by unfold NetS.isIn; first | exact decide_eq_false (by omega) | exact decide_eq_decide.2 (by omega)
 rw [hans3]
 exact ⟨rfl,(((hs.pick 2 rfl rfl).pick 2 rfl rfl).pick 2 rfl rfl)⟩
set_option maxHeartbeats 8000000 in
theorem len_spec {H:Hp} {w:World} {L:List Res} {g_t:Nat} {t:NetS} {vb_t:Value} {cb_t:List Value} {vt_t:Value} {ct_t:List Value} (hs:St H w (netG 64 37 3 5 g_t t vb_t cb_t vt_t ct_t (L))) (ok_t:NetOk H t vb_t cb_t vt_t ct_t):Calls Tryd.prog 18 #[.pointer (some ⟨g_t,0,none⟩)] w (fun e w' => e = .returned (.int .i64 ((t.ps.length:Nat):Int))∧St H w' (netG 64 37 3 5 g_t t vb_t cb_t vt_t ct_t (L))):=by
 have hn1_t:=ok_t.n1
 have hn16_t:=ok_t.n16
 have hlen_t:=ok_t.len
 have hmax_t:=ok_t.max
 have hl0_t:=ok_t.l0
 have hs:St H w (obj g_t 64 (netCells t.n vb_t vt_t t.hr t.lost)::row 37 3 vb_t t.ps.length cb_t::row 3 1 vt_t t.bi.length ct_t::(t.ps.map (pkRes 5) ++ L)):=hs
 refine enter (args:=[.pointer (some ⟨g_t,0,none⟩)]) (N:=10) Tryd.func18 rfl rfl rfl ?_
 refine c_seq ?_
 refine c_region ?_
 refine st (v:=.int .i64 0) (x_assign .const) ?_
 refine c_nil ?_
 refine n_then ?_
 refine c_seq ?_
 refine c_seq ?_
 refine c_region ?_
 refine st (v:=.pointer (some ⟨g_t,0,none⟩)) (x_move (.tmp rfl rfl)) ?_
 refine st (v:=.bool false) (x_eqlP Tryd.underlying24 (.tmp rfl rfl) .const rfl) ?_
 refine c_nil ?_
 refine n_then ?_
 refine c_cond_f (t:=false) (.tmp rfl rfl) rfl ?_
 refine c_skip ?_
 refine n_then ?_
 refine c_seq ?_
 refine c_region ?_
 refine st (v:=.pointer (some ⟨g_t,0,none⟩)) (x_move (.tmp rfl rfl)) ?_
 refine st (v:=.pointer (some ⟨g_t,0,none⟩)) (x_nilCheck (.tmp rfl rfl)) ?_
 refine st (v:=.pointer (some ⟨g_t,0 + 1,none⟩)) (fa64_1 (.tmp rfl rfl)) ?_
 refine st (v:=vb_t) (ld51 (.tmp rfl rfl) (hs.cell 0 rfl (0 + 1) rfl)) ?_
 obtain ⟨A1,c2,hv3,hc4⟩:=ok_t.okb.slice
 refine st (v:=.int .i64 ((t.ps.length:Nat):Int)) (x_len (n:=t.ps.length) Tryd.underlying51 (.tmp rfl hv3)) ?_
 refine st (v:=.int .i64 ((t.ps.length:Nat):Int)) (x_assign (.tmp rfl rfl)) ?_
 refine c_nil ?_
 refine n_then ?_
 refine c_ret ?_
 refine leave_ret (res_one (v:=.int .i64 ((t.ps.length:Nat):Int)) rfl (.mk rfl rfl)) ?_
 exact ⟨rfl,(((hs.pick 2 rfl rfl).pick 2 rfl rfl).pick 2 rfl rfl)⟩
set_option maxHeartbeats 8000000 in
theorem lost_spec {H:Hp} {w:World} {L:List Res} {g_t:Nat} {t:NetS} {vb_t:Value} {cb_t:List Value} {vt_t:Value} {ct_t:List Value} (hs:St H w (netG 64 37 3 5 g_t t vb_t cb_t vt_t ct_t (L))) (ok_t:NetOk H t vb_t cb_t vt_t ct_t):Calls Tryd.prog 23 #[.pointer (some ⟨g_t,0,none⟩)] w (fun e w' => e = .returned (.int .i64 t.lost)∧St H w' (netG 64 37 3 5 g_t t vb_t cb_t vt_t ct_t (L))):=by
 have hn1_t:=ok_t.n1
 have hn16_t:=ok_t.n16
 have hlen_t:=ok_t.len
 have hmax_t:=ok_t.max
 have hl0_t:=ok_t.l0
 have hs:St H w (obj g_t 64 (netCells t.n vb_t vt_t t.hr t.lost)::row 37 3 vb_t t.ps.length cb_t::row 3 1 vt_t t.bi.length ct_t::(t.ps.map (pkRes 5) ++ L)):=hs
 refine enter (args:=[.pointer (some ⟨g_t,0,none⟩)]) (N:=9) Tryd.func23 rfl rfl rfl ?_
 refine c_seq ?_
 refine c_region ?_
 refine st (v:=.int .i64 0) (x_assign .const) ?_
 refine c_nil ?_
 refine n_then ?_
 refine c_seq ?_
 refine c_seq ?_
 refine c_region ?_
 refine st (v:=.pointer (some ⟨g_t,0,none⟩)) (x_move (.tmp rfl rfl)) ?_
 refine st (v:=.bool false) (x_eqlP Tryd.underlying24 (.tmp rfl rfl) .const rfl) ?_
 refine c_nil ?_
 refine n_then ?_
 refine c_cond_f (t:=false) (.tmp rfl rfl) rfl ?_
 refine c_skip ?_
 refine n_then ?_
 refine c_seq ?_
 refine c_region ?_
 refine st (v:=.pointer (some ⟨g_t,0,none⟩)) (x_move (.tmp rfl rfl)) ?_
 refine st (v:=.pointer (some ⟨g_t,0,none⟩)) (x_nilCheck (.tmp rfl rfl)) ?_
 refine st (v:=.pointer (some ⟨g_t,0 + 19,none⟩)) (fa64_4 (.tmp rfl rfl)) ?_
 refine st (v:=.int .i64 t.lost) (ld3 (.tmp rfl rfl) (hs.cell 0 rfl (0 + 19) (net_lost ok_t.hl))) ?_
 refine st (v:=.int .i64 t.lost) (x_assign (.tmp rfl rfl)) ?_
 refine c_nil ?_
 refine n_then ?_
 refine c_ret ?_
 refine leave_ret (res_one (v:=.int .i64 t.lost) rfl (.mk rfl rfl)) ?_
 exact ⟨rfl,(((hs.pick 2 rfl rfl).pick 2 rfl rfl).pick 2 rfl rfl)⟩
set_option maxHeartbeats 8000000 in
theorem hear_spec {H:Hp} {w:World} {L:List Res} {g_t:Nat} {t:NetS} {vb_t:Value} {cb_t:List Value} {vt_t:Value} {ct_t:List Value} (hs:St H w (netG 64 37 3 5 g_t t vb_t cb_t vt_t ct_t (L))) (ok_t:NetOk H t vb_t cb_t vt_t ct_t) (a:Int) (b_a:IB a) (b:Int) (b_b:IB b):Calls Tryd.prog 15 #[.pointer (some ⟨g_t,0,none⟩),.int .i64 a,.int .i64 b] w (fun e w' => e = .returned (.bool (t.hears a b))∧St H w' (netG 64 37 3 5 g_t t vb_t cb_t vt_t ct_t (L))):=by
 have hn1_t:=ok_t.n1
 have hn16_t:=ok_t.n16
 have hlen_t:=ok_t.len
 have hmax_t:=ok_t.max
 have hl0_t:=ok_t.l0
 have hs:St H w (obj g_t 64 (netCells t.n vb_t vt_t t.hr t.lost)::row 37 3 vb_t t.ps.length cb_t::row 3 1 vt_t t.bi.length ct_t::(t.ps.map (pkRes 5) ++ L)):=hs
 obtain ⟨b_a1,b_a2⟩:=b_a
 obtain ⟨b_b1,b_b2⟩:=b_b
 refine enter (args:=[.pointer (some ⟨g_t,0,none⟩),.int .i64 a,.int .i64 b]) (N:=24) Tryd.func15 rfl rfl rfl ?_
 refine c_seq ?_
 refine c_region ?_
 refine st (v:=.bool false) (x_assign .const) ?_
 refine c_nil ?_
 refine n_then ?_
 refine c_seq ?_
 refine c_region ?_
 refine st (v:=.pointer (some ⟨g_t,0,none⟩)) (x_move (.tmp rfl rfl)) ?_
 refine st (v:=.bool true) (x_neqP Tryd.underlying24 (.tmp rfl rfl) .const rfl) ?_
 refine st (v:=.bool true) (x_move (.tmp rfl rfl)) ?_
 refine g_yes (yl (dj:=9) (b:=true) rfl rfl rfl) ?_
 refine st (v:=.pointer (some ⟨g_t,0,none⟩)) (x_move (.tmp rfl rfl)) ?_
 refine g_yes (yl (dj:=9) (b:=true) rfl rfl rfl) ?_
 refine st (v:=.int .i64 a) (x_move (.tmp rfl rfl)) ?_
 refine g_yes (yl (dj:=9) (b:=true) rfl rfl rfl) ?_
 have hs1:=hs.p2
 have hs2:=hs1.p2
 have hs3:=hs2.p2
 have okn4:NetOk H t vb_t cb_t vt_t ct_t:=⟨hn1_t,hn16_t,ok_t.hl,ok_t.hb,ok_t.okb,ok_t.hkb,ok_t.okt,ok_t.hkt,(show t.bi.length = t.ps.length by first | exact hlen_t | (rw [List.length_eraseIdx,List.length_eraseIdx,hlen_t]) | (simp; omega)),(show t.ps.length ≤ 4096 by first | exact hmax_t | exact Nat.le_trans (List.length_eraseIdx_le ..) hmax_t | (simp; omega)),(show 0 ≤ t.lost by first | exact hl0_t | omega)⟩
 have hs5:St H _ (netG 64 37 3 5 g_t t vb_t cb_t vt_t ct_t (L)):=St.netFold [] hs3
 refine st_c cb31 .func (evs2 (.tmp rfl rfl) (.tmp rfl rfl)) (in_spec hs5 okn4 a ⟨b_a1,b_a2⟩ ) ?_
 rintro e w6 ⟨rfl,hs7⟩
 refine ⟨_,rfl,?_⟩
 have hs8:St H _ (obj g_t 64 (netCells t.n vb_t vt_t t.hr t.lost)::row 37 3 vb_t t.ps.length cb_t::row 3 1 vt_t t.bi.length ct_t::(t.ps.map (pkRes 5) ++ L)):=St.netUnfold [] hs7
 refine st (v:=.bool (t.isIn a)) (x_pick_t (.tmp rfl rfl) (.tmp rfl rfl)) ?_
 refine st (v:=.bool (t.isIn a)) (x_move (.tmp rfl rfl)) ?_
 rcases Bool.eq_false_or_eq_true (t.isIn a) with hc9 | hc9
 refine g_yes (yl (dj:=14) (b:=true) rfl rfl (congrArg Value.bool hc9)) ?_
 refine st (v:=.pointer (some ⟨g_t,0,none⟩)) (x_move (.tmp rfl rfl)) ?_
 refine g_yes (yl (dj:=14) (b:=true) rfl rfl (congrArg Value.bool hc9)) ?_
 refine st (v:=.int .i64 a) (x_move (.tmp rfl rfl)) ?_
 refine g_yes (yl (dj:=14) (b:=true) rfl rfl (congrArg Value.bool hc9)) ?_
 refine st (v:=.pointer (some ⟨g_t,0,none⟩)) (x_nilCheck (.tmp rfl rfl)) ?_
 refine g_yes (yl (dj:=14) (b:=true) rfl rfl (congrArg Value.bool hc9)) ?_
 refine st (v:=.pointer (some ⟨g_t,0 + 3,none⟩)) (fa64_3 (.tmp rfl rfl)) ?_
 refine g_yes (yl (dj:=14) (b:=true) rfl rfl (congrArg Value.bool hc9)) ?_
 have:=isIn_t hc9
 skip
 refine st (v:=.pointer (some ⟨g_t,(3 + a.toNat),none⟩)) (ixo62 (.tmp rfl rfl) (i:=a) (.tmp rfl rfl) (by omega) (by omega) (by omega)) ?_
 refine g_yes (yl (dj:=14) (b:=true) rfl rfl (congrArg Value.bool hc9)) ?_
 refine st (v:=.int .u16 ((t.hr.getD a.toNat 0:Nat):Int)) (ld29 (.tmp rfl rfl) (hs8.cell 0 rfl (3 + a.toNat) (net_hear ok_t.hl (by omega)))) ?_
 refine g_yes (yl (dj:=14) (b:=true) rfl rfl (congrArg Value.bool hc9)) ?_
 refine st (v:=.int .i64 b) (x_move (.tmp rfl rfl)) ?_
 refine g_yes (yl (dj:=14) (b:=true) rfl rfl (congrArg Value.bool hc9)) ?_
 refine st_c cb33 .func (evs2 (.tmp rfl rfl) (.tmp rfl rfl)) (has_spec hs8 (t.hr.getD a.toNat 0) b (getD_hb ok_t.hb a.toNat) (by omega)) ?_
 rintro e w10 ⟨rfl,hs11⟩
 refine ⟨_,rfl,?_⟩
 refine st (v:=.bool (has (t.hr.getD a.toNat 0) b)) (x_pick_t (.tmp rfl (congrArg Value.bool hc9)) (.tmp rfl rfl)) ?_
 refine st (v:=.bool (has (t.hr.getD a.toNat 0) b)) (x_assign (.tmp rfl rfl)) ?_
 refine c_nil ?_
 refine n_then ?_
 refine c_ret ?_
 refine leave_ret (res_one (v:=.bool (has (t.hr.getD a.toNat 0) b)) rfl (.mk rfl rfl)) ?_
 have hans12:(t.hears a b) = (has (t.hr.getD a.toNat 0) b):=by unfold NetS.hears; rw [hc9]; rfl
 rw [hans12]
 exact ⟨rfl,(((hs11.pick 2 rfl rfl).pick 2 rfl rfl).pick 2 rfl rfl)⟩
 refine g_no (yl (dj:=14) (b:=false) rfl rfl (congrArg Value.bool hc9)) rfl ?_
 refine g_no (yl (dj:=14) (b:=false) rfl rfl (congrArg Value.bool hc9)) rfl ?_
 refine g_no (yl (dj:=14) (b:=false) rfl rfl (congrArg Value.bool hc9)) rfl ?_
 refine g_no (yl (dj:=14) (b:=false) rfl rfl (congrArg Value.bool hc9)) rfl ?_
 refine g_no (yl (dj:=14) (b:=false) rfl rfl (congrArg Value.bool hc9)) rfl ?_
 refine g_no (yl (dj:=14) (b:=false) rfl rfl (congrArg Value.bool hc9)) rfl ?_
 refine g_no (yl (dj:=14) (b:=false) rfl rfl (congrArg Value.bool hc9)) rfl ?_
 refine g_no (yl (dj:=14) (b:=false) rfl rfl (congrArg Value.bool hc9)) rfl ?_
 refine st (v:=.bool false) (x_pick_f (.tmp rfl (congrArg Value.bool hc9)) .const) ?_
 refine st (v:=.bool false) (x_assign (.tmp rfl rfl)) ?_
 refine c_nil ?_
 refine n_then ?_
 refine c_ret ?_
 refine leave_ret (res_one (v:=.bool false) rfl (.mk rfl rfl)) ?_
 have hans13:(t.hears a b) = false:=by unfold NetS.hears; rw [hc9]; rfl
 rw [hans13]
 exact ⟨rfl,(((hs8.pick 2 rfl rfl).pick 2 rfl rfl).pick 2 rfl rfl)⟩
set_option maxHeartbeats 8000000 in
theorem set_spec {H:Hp} {w:World} {L:List Res} {g_t:Nat} {t:NetS} {vb_t:Value} {cb_t:List Value} {vt_t:Value} {ct_t:List Value} (hs:St H w (netG 64 37 3 5 g_t t vb_t cb_t vt_t ct_t (L))) (ok_t:NetOk H t vb_t cb_t vt_t ct_t) (a:Int) (b_a:IB a) (b:Int) (b_b:IB b) {f_f:Nat} {cap_f:Array Value} (f:Nat → Int → Nat) (cb_f:Cb Tryd.prog f_f) (h_f:∀ {w:World} {L:List Res} (hs:St H w L) (x0_:Nat) (b_x0_:x0_ < 65536) (x1_:Int) (b_x1_:IB x1_),Calls Tryd.prog f_f (#[.int .u16 ((x0_:Nat):Int),.int .i64 x1_] ++ cap_f) w (fun e w' => e = .returned (.int .u16 (((f x0_ x1_):Nat):Int))∧St H w' L)) (fb:∀ (x:Nat) (y:Int),x < 65536 → f x y < 65536):Calls Tryd.prog 29 #[.pointer (some ⟨g_t,0,none⟩),.int .i64 a,.int .i64 b,.func (.func f_f) #[] cap_f] w (fun e w' => ∃ (vb_t':Value) (cb_t':List Value) (vt_t':Value) (ct_t':List Value),e = .returned (.int .i64 (if t.setE a b = true then 0 else 1))∧NetOk H (NetS.setH f t a b) vb_t' cb_t' vt_t' ct_t'∧St H w' (netG 64 37 3 5 g_t (NetS.setH f t a b) vb_t' cb_t' vt_t' ct_t' (L))):=by
 have hn1_t:=ok_t.n1
 have hn16_t:=ok_t.n16
 have hlen_t:=ok_t.len
 have hmax_t:=ok_t.max
 have hl0_t:=ok_t.l0
 have hs:St H w (obj g_t 64 (netCells t.n vb_t vt_t t.hr t.lost)::row 37 3 vb_t t.ps.length cb_t::row 3 1 vt_t t.bi.length ct_t::(t.ps.map (pkRes 5) ++ L)):=hs
 obtain ⟨b_a1,b_a2⟩:=b_a
 obtain ⟨b_b1,b_b2⟩:=b_b
 refine enter (args:=[.pointer (some ⟨g_t,0,none⟩),.int .i64 a,.int .i64 b,.func (.func f_f) #[] cap_f]) (N:=56) Tryd.func29 rfl rfl rfl ?_
 refine c_seq ?_
 refine c_region ?_
 refine st (v:=.int .i64 0) (x_assign .const) ?_
 refine c_nil ?_
 refine n_then ?_
 refine c_seq ?_
 refine c_block ?_
 refine c_seq ?_
 refine c_region ?_
 refine st (v:=.pointer (some ⟨g_t,0,none⟩)) (x_move (.tmp rfl rfl)) ?_
 refine st (v:=.bool false) (x_eqlP Tryd.underlying24 (.tmp rfl rfl) .const rfl) ?_
 refine st (v:=.bool false) (x_assign (.tmp rfl rfl)) ?_
 refine c_nil ?_
 refine n_then ?_
 refine c_cond_f (t:=false) (.tmp rfl rfl) rfl ?_
 refine c_seq ?_
 refine c_region ?_
 refine st (v:=.pointer (some ⟨g_t,0,none⟩)) (x_move (.tmp rfl rfl)) ?_
 refine st (v:=.int .i64 a) (x_move (.tmp rfl rfl)) ?_
 have hs1:=hs.p2
 have hs2:=hs1.p2
 have hs3:=hs2.p2
 have okn4:NetOk H t vb_t cb_t vt_t ct_t:=⟨hn1_t,hn16_t,ok_t.hl,ok_t.hb,ok_t.okb,ok_t.hkb,ok_t.okt,ok_t.hkt,(show t.bi.length = t.ps.length by first | exact hlen_t | (rw [List.length_eraseIdx,List.length_eraseIdx,hlen_t]) | (simp; omega)),(show t.ps.length ≤ 4096 by first | exact hmax_t | exact Nat.le_trans (List.length_eraseIdx_le ..) hmax_t | (simp; omega)),(show 0 ≤ t.lost by first | exact hl0_t | omega)⟩
 have hs5:St H _ (netG 64 37 3 5 g_t t vb_t cb_t vt_t ct_t (L)):=St.netFold [] hs3
 refine st_c cb31 .func (evs2 (.tmp rfl rfl) (.tmp rfl rfl)) (in_spec hs5 okn4 a ⟨b_a1,b_a2⟩ ) ?_
 rintro e w6 ⟨rfl,hs7⟩
 refine ⟨_,rfl,?_⟩
 have hs8:St H _ (obj g_t 64 (netCells t.n vb_t vt_t t.hr t.lost)::row 37 3 vb_t t.ps.length cb_t::row 3 1 vt_t t.bi.length ct_t::(t.ps.map (pkRes 5) ++ L)):=St.netUnfold [] hs7
 refine st (v:=.bool (!(t.isIn a))) (x_not (.tmp rfl rfl)) ?_
 refine st (v:=.bool (!(t.isIn a))) (x_move (.tmp rfl rfl)) ?_
 rcases Bool.eq_false_or_eq_true (t.isIn a) with hc9 | hc9
 refine g_yes (yl (dj:=17) (b:=false) rfl rfl (congrArg Value.bool (by rw [hc9]; rfl))) ?_
 refine st (v:=.pointer (some ⟨g_t,0,none⟩)) (x_move (.tmp rfl rfl)) ?_
 refine g_yes (yl (dj:=17) (b:=false) rfl rfl (congrArg Value.bool (by rw [hc9]; rfl))) ?_
 refine st (v:=.int .i64 b) (x_move (.tmp rfl rfl)) ?_
 refine g_yes (yl (dj:=17) (b:=false) rfl rfl (congrArg Value.bool (by rw [hc9]; rfl))) ?_
 have hs10:=hs8.p2
 have hs11:=hs10.p2
 have hs12:=hs11.p2
 have okn13:NetOk H t vb_t cb_t vt_t ct_t:=⟨hn1_t,hn16_t,ok_t.hl,ok_t.hb,ok_t.okb,ok_t.hkb,ok_t.okt,ok_t.hkt,(show t.bi.length = t.ps.length by first | exact hlen_t | (rw [List.length_eraseIdx,List.length_eraseIdx,hlen_t]) | (simp; omega)),(show t.ps.length ≤ 4096 by first | exact hmax_t | exact Nat.le_trans (List.length_eraseIdx_le ..) hmax_t | (simp; omega)),(show 0 ≤ t.lost by first | exact hl0_t | omega)⟩
 have hs14:St H _ (netG 64 37 3 5 g_t t vb_t cb_t vt_t ct_t (L)):=St.netFold [] hs12
 refine st_c cb31 .func (evs2 (.tmp rfl rfl) (.tmp rfl rfl)) (in_spec hs14 okn13 b ⟨b_b1,b_b2⟩ ) ?_
 rintro e w15 ⟨rfl,hs16⟩
 refine ⟨_,rfl,?_⟩
 have hs17:St H _ (obj g_t 64 (netCells t.n vb_t vt_t t.hr t.lost)::row 37 3 vb_t t.ps.length cb_t::row 3 1 vt_t t.bi.length ct_t::(t.ps.map (pkRes 5) ++ L)):=St.netUnfold [] hs16
 refine g_yes (yl (dj:=17) (b:=false) rfl rfl (congrArg Value.bool (by rw [hc9]; rfl))) ?_
 refine st (v:=.bool (!(t.isIn b))) (x_not (.tmp rfl rfl)) ?_
 refine st (v:=.bool (!(t.isIn b))) (x_pick_f (.tmp rfl (congrArg Value.bool (by rw [hc9]; rfl))) (.tmp rfl rfl)) ?_
 refine st (v:=.bool (!(t.isIn b))) (x_move (.tmp rfl rfl)) ?_
 rcases Bool.eq_false_or_eq_true (t.isIn b) with hc18 | hc18
 refine g_yes (yl (dj:=23) (b:=false) rfl rfl (congrArg Value.bool (by rw [hc18]; rfl))) ?_
 refine st (v:=.int .i64 a) (x_move (.tmp rfl rfl)) ?_
 refine g_yes (yl (dj:=23) (b:=false) rfl rfl (congrArg Value.bool (by rw [hc18]; rfl))) ?_
 refine st (v:=.int .i64 b) (x_move (.tmp rfl rfl)) ?_
 refine g_yes (yl (dj:=23) (b:=false) rfl rfl (congrArg Value.bool (by rw [hc18]; rfl))) ?_
 refine st (v:=.bool (decide ((a:Int) = b))) (x_eql (k:=.i64) (a:=a) (b:=b) (.tmp rfl rfl) (.tmp rfl rfl)) ?_
 refine st (v:=.bool (decide ((a:Int) = b))) (x_pick_f (.tmp rfl (congrArg Value.bool (by rw [hc18]; rfl))) (.tmp rfl rfl)) ?_
 refine st (v:=.bool (decide ((a:Int) = b))) (x_assign (.tmp rfl rfl)) ?_
 refine c_nil ?_
 refine n_then ?_
 rcases Bool.eq_false_or_eq_true (decide ((a:Int) = b)) with hc19 | hc19
 have hp19:(a:Int) = b:=of_decide_eq_true hc19
 refine c_cond_t (t:=true) (.tmp rfl (congrArg Value.bool hc19)) rfl ?_
 refine c_seq ?_
 refine c_region ?_
 refine st (v:=.int .i64 1) (x_assign .const) ?_
 refine c_nil ?_
 refine n_then ?_
 refine c_ret ?_
 refine r_block ?_
 refine r_then ?_
 refine leave_ret (res_one (v:=.int .i64 1) rfl (.mk rfl rfl)) ?_
 have hE:t.setE a b = false:=setE_f (by first | exact .inl (by assumption) | exact .inr (.inl (by assumption)) | exact .inr (.inr (by omega)))
 have hS:NetS.setH f t a b = t:=if_neg (by rw [hE]; decide)
 rw [hS,if_neg (by rw [hE]; decide)]
 exact ⟨vb_t,cb_t,vt_t,ct_t,rfl,⟨hn1_t,hn16_t,ok_t.hl,ok_t.hb,ok_t.okb,ok_t.hkb,ok_t.okt,ok_t.hkt,(show t.bi.length = t.ps.length by first | exact hlen_t | (rw [List.length_eraseIdx,List.length_eraseIdx,hlen_t]) | (simp; omega)),(show t.ps.length ≤ 4096 by first | exact hmax_t | exact Nat.le_trans (List.length_eraseIdx_le ..) hmax_t | (simp; omega)),(show 0 ≤ t.lost by first | exact hl0_t | omega)⟩,(((hs17.pick 2 rfl rfl).pick 2 rfl rfl).pick 2 rfl rfl)⟩
 have hp19:¬ ((a:Int) = b):=of_decide_eq_false hc19
 refine c_cond_f (t:=false) (.tmp rfl (congrArg Value.bool hc19)) rfl ?_
 refine c_skip ?_
 refine n_block ?_
 refine n_then ?_
 refine c_seq ?_
 refine t_region (L:=obj g_t 64 (netCells t.n vb_t vt_t t.hr t.lost)::row 37 3 vb_t t.ps.length cb_t::row 3 1 vt_t t.bi.length ct_t::(t.ps.map (pkRes 5) ++ L)) (L':=obj g_t 64 (netCells t.n vb_t vt_t t.hr t.lost)::row 37 3 vb_t t.ps.length cb_t::row 3 1 vt_t t.bi.length ct_t::(t.ps.map (pkRes 5) ++ L)) (Z:=[21,25,29]) (F:=[0,1,2,3,5,7,14,22,23,26,27]) (pl:=(.q 0 (.q 1 (.q 2 (.q 3 (.q 4 (.q 5 (.q 6 (.q 7 (.q 8 (.q 9 (.q 10 (.q 11 (.q 13 (.q 14 (.q 15 (.q 16 (.q 17 (.q 18 (.q 19 (.q 20 (.q 22 (.q 23 (.q 26 (.q 27 (.e 12 (.e 21 (.q 24 (.e 25 (.q 28 (.e 29 .done))))))))))))))))))))))))))))))) mixed hs17 (fun u hu => hu) (by kernel_rfl) ?_
 intro w20 hs21
 refine t_fr (k:=0) (v:=.pointer (some ⟨g_t,0,none⟩)) rfl (fun w _ => (x_move (.tmp rfl rfl))) ?_
 refine t_fr (k:=1) (v:=.int .i64 a) rfl (fun w _ => (x_move (.tmp rfl rfl))) ?_
 refine t_fr (k:=2) (v:=.pointer (some ⟨g_t,0,none⟩)) rfl (fun w _ => (x_move (.tmp rfl rfl))) ?_
 refine t_fr (k:=3) (v:=.int .i64 b) rfl (fun w _ => (x_move (.tmp rfl rfl))) ?_
 refine t_st (k:=4) (v:=.func (.func f_f) #[] cap_f) rfl rfl (fun w hs => (x_move (.tmp rfl rfl))) ?_
 refine t_fr (k:=5) (v:=.pointer (some ⟨g_t,0,none⟩)) rfl (fun w _ => (x_move (.tmp rfl rfl))) ?_
 refine t_st (k:=6) (v:=.int .i64 a) rfl rfl (fun w hs => (x_move (.tmp rfl rfl))) ?_
 refine t_fr (k:=7) (v:=.pointer (some ⟨g_t,0,none⟩)) rfl (fun w _ => (x_nilCheck (.tmp rfl rfl))) ?_
 refine t_st (k:=8) (v:=.pointer (some ⟨g_t,0 + 3,none⟩)) rfl rfl (fun w hs => (fa64_3 (.tmp rfl rfl))) ?_
 have:=isIn_t hc9
 have:=isIn_t hc18
 skip
 refine t_st (k:=9) (v:=.pointer (some ⟨g_t,(3 + a.toNat),none⟩)) rfl rfl (fun w hs => (ixo62 (.tmp rfl rfl) (i:=a) (.tmp rfl rfl) (by omega) (by omega) (by omega))) ?_
 refine t_st (k:=10) (v:=.int .u16 ((t.hr.getD a.toNat 0:Nat):Int)) rfl rfl (fun w hs => (ld29 (.tmp rfl rfl) (hs.cell 0 rfl (3 + a.toNat) (net_hear ok_t.hl (by omega))))) ?_
 refine t_st (k:=11) (v:=.int .i64 b) rfl rfl (fun w hs => (x_move (.tmp rfl rfl))) ?_
 refine t_st (k:=13) (v:=.func (.func f_f) #[] cap_f) rfl rfl (fun w hs => (x_move (.tmp rfl rfl))) ?_
 refine t_fr (k:=14) (v:=.pointer (some ⟨g_t,0,none⟩)) rfl (fun w _ => (x_move (.tmp rfl rfl))) ?_
 refine t_st (k:=15) (v:=.int .i64 b) rfl rfl (fun w hs => (x_move (.tmp rfl rfl))) ?_
 refine t_st (k:=16) (v:=.pointer (some ⟨g_t,0,none⟩)) rfl rfl (fun w hs => (x_nilCheck (.tmp rfl rfl))) ?_
 refine t_st (k:=17) (v:=.pointer (some ⟨g_t,0 + 3,none⟩)) rfl rfl (fun w hs => (fa64_3 (.tmp rfl rfl))) ?_
 refine t_st (k:=18) (v:=.pointer (some ⟨g_t,(3 + b.toNat),none⟩)) rfl rfl (fun w hs => (ixo62 (.tmp rfl rfl) (i:=b) (.tmp rfl rfl) (by omega) (by omega) (by omega))) ?_
 refine t_st (k:=19) (v:=.int .u16 ((t.hr.getD b.toNat 0:Nat):Int)) rfl rfl (fun w hs => (ld29 (.tmp rfl rfl) (hs.cell 0 rfl (3 + b.toNat) (net_hear ok_t.hl (by omega))))) ?_
 refine t_st (k:=20) (v:=.int .i64 a) rfl rfl (fun w hs => (x_move (.tmp rfl rfl))) ?_
 refine t_fr (k:=22) (v:=.pointer (some ⟨g_t,0,none⟩)) rfl (fun w _ => (x_nilCheck (.tmp rfl rfl))) ?_
 refine t_fr (k:=23) (v:=.pointer (some ⟨g_t,0 + 3,none⟩)) rfl (fun w _ => (fa64_3 (.tmp rfl rfl))) ?_
 refine t_fr (k:=26) (v:=.pointer (some ⟨g_t,0,none⟩)) rfl (fun w _ => (x_nilCheck (.tmp rfl rfl))) ?_
 refine t_fr (k:=27) (v:=.pointer (some ⟨g_t,0 + 3,none⟩)) rfl (fun w _ => (fa64_3 (.tmp rfl rfl))) ?_
 refine t_eff (k:=12) rfl ?_
 refine st_cc cb_f (.tmp rfl rfl) (evs2 (.tmp rfl rfl) (.tmp rfl rfl)) rfl (h_f hs21 (t.hr.getD a.toNat 0) (getD_hb ok_t.hb a.toNat) b ⟨b_b1,b_b2⟩) ?_
 rintro e w22 ⟨rfl,hs23⟩
 refine ⟨_,rfl,?_⟩
 refine t_on (S':=fun u => St H u (obj g_t 64 (netCells t.n vb_t vt_t t.hr t.lost)::row 37 3 vb_t t.ps.length cb_t::row 3 1 vt_t t.bi.length ct_t::(t.ps.map (pkRes 5) ++ L))) (fun u hu => hu) hs23 ?_
 refine t_eff (k:=21) rfl ?_
 refine st_cc cb_f (.tmp rfl rfl) (evs2 (.tmp rfl rfl) (.tmp rfl rfl)) rfl (h_f hs23 (t.hr.getD b.toNat 0) (getD_hb ok_t.hb b.toNat) a ⟨b_a1,b_a2⟩) ?_
 rintro e w24 ⟨rfl,hs25⟩
 refine ⟨_,rfl,?_⟩
 refine t_new (S':=fun u => St H u (obj g_t 64 (netCells t.n vb_t vt_t t.hr t.lost)::row 37 3 vb_t t.ps.length cb_t::row 3 1 vt_t t.bi.length ct_t::(t.ps.map (pkRes 5) ++ L))) rfl hs25 ?_
 refine t_st (k:=24) (v:=.pointer (some ⟨g_t,(3 + a.toNat),none⟩)) rfl rfl (fun w hs => (ixo62 (.tmp rfl rfl) (i:=a) (.tmp rfl rfl) (by omega) (by omega) (by omega))) ?_
 refine t_eff (k:=25) rfl ?_
 refine st_m0 (sto29 (cs':=(netCells t.n vb_t vt_t (t.hr.set a.toNat (f (t.hr.getD a.toNat 0) b)) t.lost)) (i:=3 + a.toNat) hs25 (v:=.int .u16 (((f (t.hr.getD a.toNat 0) b):Nat):Int)) (.tmp rfl rfl) (.tmp rfl rfl) rfl (by rw [net_len ok_t.hl]; omega) one1 (net_setH ok_t.hl (by omega))) ?_
 rintro w26 hs27
 refine t_new (S':=fun u => St H u (obj g_t 64 (netCells t.n vb_t vt_t (t.hr.set a.toNat (f (t.hr.getD a.toNat 0) b)) t.lost)::row 37 3 vb_t t.ps.length cb_t::row 3 1 vt_t t.bi.length ct_t::(t.ps.map (pkRes 5) ++ L))) rfl hs27 ?_
 refine t_st (k:=28) (v:=.pointer (some ⟨g_t,(3 + b.toNat),none⟩)) rfl rfl (fun w hs => (ixo62 (.tmp rfl rfl) (i:=b) (.tmp rfl rfl) (by omega) (by omega) (by omega))) ?_
 refine t_eff (k:=29) rfl ?_
 refine st_m0 (sto29 (cs':=(netCells t.n vb_t vt_t ((t.hr.set a.toNat (f (t.hr.getD a.toNat 0) b)).set b.toNat (f (t.hr.getD b.toNat 0) a)) t.lost)) (i:=3 + b.toNat) hs27 (v:=.int .u16 (((f (t.hr.getD b.toNat 0) a):Nat):Int)) (.tmp rfl rfl) (.tmp rfl rfl) rfl (by rw [net_len (set_len ok_t.hl)]; omega) one1 (net_setH (set_len ok_t.hl) (by omega))) ?_
 rintro w28 hs29
 refine t_new (S':=fun u => St H u (obj g_t 64 (netCells t.n vb_t vt_t ((t.hr.set a.toNat (f (t.hr.getD a.toNat 0) b)).set b.toNat (f (t.hr.getD b.toNat 0) a)) t.lost)::row 37 3 vb_t t.ps.length cb_t::row 3 1 vt_t t.bi.length ct_t::(t.ps.map (pkRes 5) ++ L))) rfl hs29 ?_
 refine t_nil ?_
 refine n_then ?_
 refine c_seq ?_
 refine c_region ?_
 refine st (v:=.int .i64 0) (x_assign .const) ?_
 refine c_nil ?_
 refine n_then ?_
 refine c_ret ?_
 refine leave_ret (res_one (v:=.int .i64 0) rfl (.mk rfl rfl)) ?_
 have hE:t.setE a b = true:=setE_t (by assumption) (by assumption) (by omega)
 have hS:NetS.setH f t a b = NetS.mk t.n ((t.hr.set a.toNat (f (t.hr.getD a.toNat 0) b)).set b.toNat (f (t.hr.getD b.toNat 0) a)) t.ps t.bi t.lost:=if_pos hE
 rw [hS,if_pos hE]
 exact ⟨vb_t,cb_t,vt_t,ct_t,rfl,⟨hn1_t,hn16_t,(set_len (set_len ok_t.hl)),(set_hb (set_hb ok_t.hb (fb (t.hr.getD a.toNat 0) b (getD_hb ok_t.hb a.toNat))) (fb (t.hr.getD b.toNat 0) a (getD_hb ok_t.hb b.toNat))),ok_t.okb,ok_t.hkb,ok_t.okt,ok_t.hkt,(show t.bi.length = t.ps.length by first | exact hlen_t | (rw [List.length_eraseIdx,List.length_eraseIdx,hlen_t]) | (simp; omega)),(show t.ps.length ≤ 4096 by first | exact hmax_t | exact Nat.le_trans (List.length_eraseIdx_le ..) hmax_t | (simp; omega)),(show 0 ≤ t.lost by first | exact hl0_t | omega)⟩,(((hs29.pick 2 rfl rfl).pick 2 rfl rfl).pick 2 rfl rfl)⟩
 refine g_no (yl (dj:=23) (b:=true) rfl rfl (congrArg Value.bool (by rw [hc18]; rfl))) rfl ?_
 refine g_no (yl (dj:=23) (b:=true) rfl rfl (congrArg Value.bool (by rw [hc18]; rfl))) rfl ?_
 refine g_no (yl (dj:=23) (b:=true) rfl rfl (congrArg Value.bool (by rw [hc18]; rfl))) rfl ?_
 refine st (v:=.bool true) (x_pick_t (.tmp rfl (congrArg Value.bool (by rw [hc18]; rfl))) .const) ?_
 refine st (v:=.bool true) (x_assign (.tmp rfl rfl)) ?_
 refine c_nil ?_
 refine n_then ?_
 refine c_cond_t (t:=true) (.tmp rfl rfl) rfl ?_
 refine c_seq ?_
 refine c_region ?_
 refine st (v:=.int .i64 1) (x_assign .const) ?_
 refine c_nil ?_
 refine n_then ?_
 refine c_ret ?_
 refine r_block ?_
 refine r_then ?_
 refine leave_ret (res_one (v:=.int .i64 1) rfl (.mk rfl rfl)) ?_
 have hE:t.setE a b = false:=setE_f (by first | exact .inl (by assumption) | exact .inr (.inl (by assumption)) | exact .inr (.inr (by omega)))
 have hS:NetS.setH f t a b = t:=if_neg (by rw [hE]; decide)
 rw [hS,if_neg (by rw [hE]; decide)]
 exact ⟨vb_t,cb_t,vt_t,ct_t,rfl,⟨hn1_t,hn16_t,ok_t.hl,ok_t.hb,ok_t.okb,ok_t.hkb,ok_t.okt,ok_t.hkt,(show t.bi.length = t.ps.length by first | exact hlen_t | (rw [List.length_eraseIdx,List.length_eraseIdx,hlen_t]) | (simp; omega)),(show t.ps.length ≤ 4096 by first | exact hmax_t | exact Nat.le_trans (List.length_eraseIdx_le ..) hmax_t | (simp; omega)),(show 0 ≤ t.lost by first | exact hl0_t | omega)⟩,(((hs17.pick 2 rfl rfl).pick 2 rfl rfl).pick 2 rfl rfl)⟩
 refine g_no (yl (dj:=17) (b:=true) rfl rfl (congrArg Value.bool (by rw [hc9]; rfl))) rfl ?_
 refine g_no (yl (dj:=17) (b:=true) rfl rfl (congrArg Value.bool (by rw [hc9]; rfl))) rfl ?_
 refine g_no (yl (dj:=17) (b:=true) rfl rfl (congrArg Value.bool (by rw [hc9]; rfl))) rfl ?_
 refine g_no (yl (dj:=17) (b:=true) rfl rfl (congrArg Value.bool (by rw [hc9]; rfl))) rfl ?_
 refine st (v:=.bool true) (x_pick_t (.tmp rfl (congrArg Value.bool (by rw [hc9]; rfl))) .const) ?_
 refine st (v:=.bool true) (x_move (.tmp rfl rfl)) ?_
 refine g_no (yl (dj:=23) (b:=true) rfl rfl rfl) rfl ?_
 refine g_no (yl (dj:=23) (b:=true) rfl rfl rfl) rfl ?_
 refine g_no (yl (dj:=23) (b:=true) rfl rfl rfl) rfl ?_
 refine st (v:=.bool true) (x_pick_t (.tmp rfl rfl) .const) ?_
 refine st (v:=.bool true) (x_assign (.tmp rfl rfl)) ?_
 refine c_nil ?_
 refine n_then ?_
 refine c_cond_t (t:=true) (.tmp rfl rfl) rfl ?_
 refine c_seq ?_
 refine c_region ?_
 refine st (v:=.int .i64 1) (x_assign .const) ?_
 refine c_nil ?_
 refine n_then ?_
 refine c_ret ?_
 refine r_block ?_
 refine r_then ?_
 refine leave_ret (res_one (v:=.int .i64 1) rfl (.mk rfl rfl)) ?_
 have hE:t.setE a b = false:=setE_f (by first | exact .inl (by assumption) | exact .inr (.inl (by assumption)) | exact .inr (.inr (by omega)))
 have hS:NetS.setH f t a b = t:=if_neg (by rw [hE]; decide)
 rw [hS,if_neg (by rw [hE]; decide)]
 exact ⟨vb_t,cb_t,vt_t,ct_t,rfl,⟨hn1_t,hn16_t,ok_t.hl,ok_t.hb,ok_t.okb,ok_t.hkb,ok_t.okt,ok_t.hkt,(show t.bi.length = t.ps.length by first | exact hlen_t | (rw [List.length_eraseIdx,List.length_eraseIdx,hlen_t]) | (simp; omega)),(show t.ps.length ≤ 4096 by first | exact hmax_t | exact Nat.le_trans (List.length_eraseIdx_le ..) hmax_t | (simp; omega)),(show 0 ≤ t.lost by first | exact hl0_t | omega)⟩,(((hs8.pick 2 rfl rfl).pick 2 rfl rfl).pick 2 rfl rfl)⟩
set_option maxHeartbeats 8000000 in
theorem cut_spec {H:Hp} {w:World} {L:List Res} {g_t:Nat} {t:NetS} {vb_t:Value} {cb_t:List Value} {vt_t:Value} {ct_t:List Value} (hs:St H w (netG 64 37 3 5 g_t t vb_t cb_t vt_t ct_t (L))) (ok_t:NetOk H t vb_t cb_t vt_t ct_t) (a:Int) (b_a:IB a) (b:Int) (b_b:IB b):Calls Tryd.prog 13 #[.pointer (some ⟨g_t,0,none⟩),.int .i64 a,.int .i64 b] w (fun e w' => ∃ (vb_t':Value) (cb_t':List Value) (vt_t':Value) (ct_t':List Value),e = .returned (.int .i64 (if t.setE a b = true then 0 else 1))∧NetOk H (NetS.setH wto t a b) vb_t' cb_t' vt_t' ct_t'∧St H w' (netG 64 37 3 5 g_t (NetS.setH wto t a b) vb_t' cb_t' vt_t' ct_t' (L))):=by
 have hn1_t:=ok_t.n1
 have hn16_t:=ok_t.n16
 have hlen_t:=ok_t.len
 have hmax_t:=ok_t.max
 have hl0_t:=ok_t.l0
 have hs:St H w (obj g_t 64 (netCells t.n vb_t vt_t t.hr t.lost)::row 37 3 vb_t t.ps.length cb_t::row 3 1 vt_t t.bi.length ct_t::(t.ps.map (pkRes 5) ++ L)):=hs
 obtain ⟨b_a1,b_a2⟩:=b_a
 obtain ⟨b_b1,b_b2⟩:=b_b
 refine enter (args:=[.pointer (some ⟨g_t,0,none⟩),.int .i64 a,.int .i64 b]) (N:=11) Tryd.func13 rfl rfl rfl ?_
 refine c_seq ?_
 refine c_region ?_
 refine st (v:=.int .i64 0) (x_assign .const) ?_
 refine c_nil ?_
 refine n_then ?_
 refine c_seq ?_
 refine c_region ?_
 refine st (v:=.pointer (some ⟨g_t,0,none⟩)) (x_move (.tmp rfl rfl)) ?_
 refine st (v:=.int .i64 a) (x_move (.tmp rfl rfl)) ?_
 refine st (v:=.int .i64 b) (x_move (.tmp rfl rfl)) ?_
 have hs1:=hs.p2
 have hs2:=hs1.p2
 have hs3:=hs2.p2
 have okn4:NetOk H t vb_t cb_t vt_t ct_t:=⟨hn1_t,hn16_t,ok_t.hl,ok_t.hb,ok_t.okb,ok_t.hkb,ok_t.okt,ok_t.hkt,(show t.bi.length = t.ps.length by first | exact hlen_t | (rw [List.length_eraseIdx,List.length_eraseIdx,hlen_t]) | (simp; omega)),(show t.ps.length ≤ 4096 by first | exact hmax_t | exact Nat.le_trans (List.length_eraseIdx_le ..) hmax_t | (simp; omega)),(show 0 ≤ t.lost by first | exact hl0_t | omega)⟩
 have hs5:St H _ (netG 64 37 3 5 g_t t vb_t cb_t vt_t ct_t (L)):=St.netFold [] hs3
 refine st_c cb29 .func (evs4 (.tmp rfl rfl) (.tmp rfl rfl) (.tmp rfl rfl) .func) (set_spec hs5 okn4 a ⟨b_a1,b_a2⟩ b ⟨b_b1,b_b2⟩ (fun (y0:Nat) (y1:Int) => (wto y0 y1)) cb30 (fun {_} {_} hs y0 h0 y1 h1 => without_cl hs y0 h0 y1 h1 ) (fun x y hx => wto_lt hx y)) ?_
 rintro e w6 ⟨vb8,cb9,vt10,ct11,rfl,ok12,hs7⟩
 refine ⟨_,rfl,?_⟩
 obtain ⟨nt14,hnt14⟩:∃ z,z = (NetS.setH (fun (y0:Nat) (y1:Int) => (wto y0 y1)) t a b):=⟨_,rfl⟩
 rw [← hnt14] at ok12 hs7
 have hn1_t:=ok12.n1
 have hn16_t:=ok12.n16
 have hlen_t:=ok12.len
 have hmax_t:=ok12.max
 have hl0_t:=ok12.l0
 have hs13:St H _ (obj g_t 64 (netCells nt14.n vb8 vt10 nt14.hr nt14.lost)::row 37 3 vb8 nt14.ps.length cb9::row 3 1 vt10 nt14.bi.length ct11::(nt14.ps.map (pkRes 5) ++ L)):=St.netUnfold [] hs7
 refine st (v:=.int .i64 (if t.setE a b = true then 0 else 1)) (x_assign (.tmp rfl rfl)) ?_
 refine c_nil ?_
 refine n_then ?_
 refine c_ret ?_
 refine leave_ret (res_one (v:=.int .i64 (if t.setE a b = true then 0 else 1)) rfl (.mk rfl rfl)) ?_
 rw [show NetS.setH wto t a b = nt14 from hnt14.symm]
 exact ⟨vb8,cb9,vt10,ct11,rfl,⟨hn1_t,hn16_t,ok12.hl,ok12.hb,ok12.okb,ok12.hkb,ok12.okt,ok12.hkt,(show nt14.bi.length = nt14.ps.length by first | exact hlen_t | (rw [List.length_eraseIdx,List.length_eraseIdx,hlen_t]) | (simp; omega)),(show nt14.ps.length ≤ 4096 by first | exact hmax_t | exact Nat.le_trans (List.length_eraseIdx_le ..) hmax_t | (simp; omega)),(show 0 ≤ nt14.lost by first | exact hl0_t | omega)⟩,(((hs13.pick 2 rfl rfl).pick 2 rfl rfl).pick 2 rfl rfl)⟩
set_option maxHeartbeats 8000000 in
theorem join_spec {H:Hp} {w:World} {L:List Res} {g_t:Nat} {t:NetS} {vb_t:Value} {cb_t:List Value} {vt_t:Value} {ct_t:List Value} (hs:St H w (netG 64 37 3 5 g_t t vb_t cb_t vt_t ct_t (L))) (ok_t:NetOk H t vb_t cb_t vt_t ct_t) (a:Int) (b_a:IB a) (b:Int) (b_b:IB b):Calls Tryd.prog 24 #[.pointer (some ⟨g_t,0,none⟩),.int .i64 a,.int .i64 b] w (fun e w' => ∃ (vb_t':Value) (cb_t':List Value) (vt_t':Value) (ct_t':List Value),e = .returned (.int .i64 (if t.setE a b = true then 0 else 1))∧NetOk H (NetS.setH wth t a b) vb_t' cb_t' vt_t' ct_t'∧St H w' (netG 64 37 3 5 g_t (NetS.setH wth t a b) vb_t' cb_t' vt_t' ct_t' (L))):=by
 have hn1_t:=ok_t.n1
 have hn16_t:=ok_t.n16
 have hlen_t:=ok_t.len
 have hmax_t:=ok_t.max
 have hl0_t:=ok_t.l0
 have hs:St H w (obj g_t 64 (netCells t.n vb_t vt_t t.hr t.lost)::row 37 3 vb_t t.ps.length cb_t::row 3 1 vt_t t.bi.length ct_t::(t.ps.map (pkRes 5) ++ L)):=hs
 obtain ⟨b_a1,b_a2⟩:=b_a
 obtain ⟨b_b1,b_b2⟩:=b_b
 refine enter (args:=[.pointer (some ⟨g_t,0,none⟩),.int .i64 a,.int .i64 b]) (N:=11) Tryd.func24 rfl rfl rfl ?_
 refine c_seq ?_
 refine c_region ?_
 refine st (v:=.int .i64 0) (x_assign .const) ?_
 refine c_nil ?_
 refine n_then ?_
 refine c_seq ?_
 refine c_region ?_
 refine st (v:=.pointer (some ⟨g_t,0,none⟩)) (x_move (.tmp rfl rfl)) ?_
 refine st (v:=.int .i64 a) (x_move (.tmp rfl rfl)) ?_
 refine st (v:=.int .i64 b) (x_move (.tmp rfl rfl)) ?_
 have hs1:=hs.p2
 have hs2:=hs1.p2
 have hs3:=hs2.p2
 have okn4:NetOk H t vb_t cb_t vt_t ct_t:=⟨hn1_t,hn16_t,ok_t.hl,ok_t.hb,ok_t.okb,ok_t.hkb,ok_t.okt,ok_t.hkt,(show t.bi.length = t.ps.length by first | exact hlen_t | (rw [List.length_eraseIdx,List.length_eraseIdx,hlen_t]) | (simp; omega)),(show t.ps.length ≤ 4096 by first | exact hmax_t | exact Nat.le_trans (List.length_eraseIdx_le ..) hmax_t | (simp; omega)),(show 0 ≤ t.lost by first | exact hl0_t | omega)⟩
 have hs5:St H _ (netG 64 37 3 5 g_t t vb_t cb_t vt_t ct_t (L)):=St.netFold [] hs3
 refine st_c cb29 .func (evs4 (.tmp rfl rfl) (.tmp rfl rfl) (.tmp rfl rfl) .func) (set_spec hs5 okn4 a ⟨b_a1,b_a2⟩ b ⟨b_b1,b_b2⟩ (fun (y0:Nat) (y1:Int) => (wth y0 y1)) cb39 (fun {_} {_} hs y0 h0 y1 h1 => with_cl hs y0 h0 y1 h1 ) (fun x y hx => wth_lt hx y)) ?_
 rintro e w6 ⟨vb8,cb9,vt10,ct11,rfl,ok12,hs7⟩
 refine ⟨_,rfl,?_⟩
 obtain ⟨nt14,hnt14⟩:∃ z,z = (NetS.setH (fun (y0:Nat) (y1:Int) => (wth y0 y1)) t a b):=⟨_,rfl⟩
 rw [← hnt14] at ok12 hs7
 have hn1_t:=ok12.n1
 have hn16_t:=ok12.n16
 have hlen_t:=ok12.len
 have hmax_t:=ok12.max
 have hl0_t:=ok12.l0
 have hs13:St H _ (obj g_t 64 (netCells nt14.n vb8 vt10 nt14.hr nt14.lost)::row 37 3 vb8 nt14.ps.length cb9::row 3 1 vt10 nt14.bi.length ct11::(nt14.ps.map (pkRes 5) ++ L)):=St.netUnfold [] hs7
 refine st (v:=.int .i64 (if t.setE a b = true then 0 else 1)) (x_assign (.tmp rfl rfl)) ?_
 refine c_nil ?_
 refine n_then ?_
 refine c_ret ?_
 refine leave_ret (res_one (v:=.int .i64 (if t.setE a b = true then 0 else 1)) rfl (.mk rfl rfl)) ?_
 rw [show NetS.setH wth t a b = nt14 from hnt14.symm]
 exact ⟨vb8,cb9,vt10,ct11,rfl,⟨hn1_t,hn16_t,ok12.hl,ok12.hb,ok12.okb,ok12.hkb,ok12.okt,ok12.hkt,(show nt14.bi.length = nt14.ps.length by first | exact hlen_t | (rw [List.length_eraseIdx,List.length_eraseIdx,hlen_t]) | (simp; omega)),(show nt14.ps.length ≤ 4096 by first | exact hmax_t | exact Nat.le_trans (List.length_eraseIdx_le ..) hmax_t | (simp; omega)),(show 0 ≤ nt14.lost by first | exact hl0_t | omega)⟩,(((hs13.pick 2 rfl rfl).pick 2 rfl rfl).pick 2 rfl rfl)⟩
set_option maxHeartbeats 8000000 in
theorem class_spec {H:Hp} {w:World} {L:List Res} {g_t:Nat} {t:NetS} {vb_t:Value} {cb_t:List Value} {vt_t:Value} {ct_t:List Value} (hs:St H w (netG 64 37 3 5 g_t t vb_t cb_t vt_t ct_t (L))) (ok_t:NetOk H t vb_t cb_t vt_t ct_t) (a:Int) (b_a:IB a) (htab:Tab H):Calls Tryd.prog 14 #[.pointer (some ⟨g_t,0,none⟩),.int .i64 a] w (fun e w' => e = .returned (.int .u16 (((t.cls a):Nat):Int))∧St H w' (netG 64 37 3 5 g_t t vb_t cb_t vt_t ct_t (L))):=by
 have hn1_t:=ok_t.n1
 have hn16_t:=ok_t.n16
 have hlen_t:=ok_t.len
 have hmax_t:=ok_t.max
 have hl0_t:=ok_t.l0
 have hs:St H w (obj g_t 64 (netCells t.n vb_t vt_t t.hr t.lost)::row 37 3 vb_t t.ps.length cb_t::row 3 1 vt_t t.bi.length ct_t::(t.ps.map (pkRes 5) ++ L)):=hs
 obtain ⟨b_a1,b_a2⟩:=b_a
 refine enter (args:=[.pointer (some ⟨g_t,0,none⟩),.int .i64 a]) (N:=47) Tryd.func14 rfl rfl rfl ?_
 refine c_seq ?_
 refine c_region ?_
 refine st (v:=.int .u16 0) (x_assign .const) ?_
 refine c_nil ?_
 refine n_then ?_
 refine c_seq ?_
 refine c_seq ?_
 refine c_region ?_
 refine st (v:=.pointer (some ⟨g_t,0,none⟩)) (x_move (.tmp rfl rfl)) ?_
 refine st (v:=.bool false) (x_eqlP Tryd.underlying24 (.tmp rfl rfl) .const rfl) ?_
 refine st (v:=.bool false) (x_move (.tmp rfl rfl)) ?_
 refine g_yes (yl (dj:=9) (b:=false) rfl rfl rfl) ?_
 refine st (v:=.pointer (some ⟨g_t,0,none⟩)) (x_move (.tmp rfl rfl)) ?_
 refine g_yes (yl (dj:=9) (b:=false) rfl rfl rfl) ?_
 refine st (v:=.int .i64 a) (x_move (.tmp rfl rfl)) ?_
 refine g_yes (yl (dj:=9) (b:=false) rfl rfl rfl) ?_
 have hs1:=hs.p2
 have hs2:=hs1.p2
 have hs3:=hs2.p2
 have okn4:NetOk H t vb_t cb_t vt_t ct_t:=⟨hn1_t,hn16_t,ok_t.hl,ok_t.hb,ok_t.okb,ok_t.hkb,ok_t.okt,ok_t.hkt,(show t.bi.length = t.ps.length by first | exact hlen_t | (rw [List.length_eraseIdx,List.length_eraseIdx,hlen_t]) | (simp; omega)),(show t.ps.length ≤ 4096 by first | exact hmax_t | exact Nat.le_trans (List.length_eraseIdx_le ..) hmax_t | (simp; omega)),(show 0 ≤ t.lost by first | exact hl0_t | omega)⟩
 have hs5:St H _ (netG 64 37 3 5 g_t t vb_t cb_t vt_t ct_t (L)):=St.netFold [] hs3
 refine st_c cb31 .func (evs2 (.tmp rfl rfl) (.tmp rfl rfl)) (in_spec hs5 okn4 a ⟨b_a1,b_a2⟩ ) ?_
 rintro e w6 ⟨rfl,hs7⟩
 refine ⟨_,rfl,?_⟩
 have hs8:St H _ (obj g_t 64 (netCells t.n vb_t vt_t t.hr t.lost)::row 37 3 vb_t t.ps.length cb_t::row 3 1 vt_t t.bi.length ct_t::(t.ps.map (pkRes 5) ++ L)):=St.netUnfold [] hs7
 refine g_yes (yl (dj:=9) (b:=false) rfl rfl rfl) ?_
 refine st (v:=.bool (!(t.isIn a))) (x_not (.tmp rfl rfl)) ?_
 refine st (v:=.bool (!(t.isIn a))) (x_pick_f (.tmp rfl rfl) (.tmp rfl rfl)) ?_
 refine c_nil ?_
 refine n_then ?_
 rcases Bool.eq_false_or_eq_true (t.isIn a) with hc9 | hc9
 refine c_cond_f (t:=false) (.tmp rfl (congrArg Value.bool (by rw [hc9]; rfl))) rfl ?_
 refine c_skip ?_
 refine n_then ?_
 refine c_seq ?_
 refine c_seq ?_
 refine c_region ?_
 refine st (v:=.pointer (some ⟨g_t,0,none⟩)) (x_move (.tmp rfl rfl)) ?_
 refine st (v:=.int .i64 a) (x_move (.tmp rfl rfl)) ?_
 refine st (v:=.pointer (some ⟨g_t,0,none⟩)) (x_nilCheck (.tmp rfl rfl)) ?_
 refine st (v:=.pointer (some ⟨g_t,0 + 3,none⟩)) (fa64_3 (.tmp rfl rfl)) ?_
 have:=isIn_t hc9
 skip
 refine st (v:=.pointer (some ⟨g_t,(3 + a.toNat),none⟩)) (ixo62 (.tmp rfl rfl) (i:=a) (.tmp rfl rfl) (by omega) (by omega) (by omega)) ?_
 refine st (v:=.int .u16 ((t.hr.getD a.toNat 0:Nat):Int)) (ld29 (.tmp rfl rfl) (hs8.cell 0 rfl (3 + a.toNat) (net_hear ok_t.hl (by omega)))) ?_
 refine st_c cb32 .func (evs1 (.tmp rfl rfl)) (list_spec hs8 htab (t.hr.getD a.toNat 0) (getD_hb ok_t.hb a.toNat)) ?_
 rintro e w11 ⟨v10,rfl,ok12,hs13⟩
 refine ⟨_,rfl,?_⟩
 obtain ⟨A15,c16,hv17,hc18⟩:=ok12.slice
 refine st (v:=.int .i64 (((lst (t.hr.getD a.toNat 0)).length:Nat):Int)) (x_len (n:=(lst (t.hr.getD a.toNat 0)).length) Tryd.underlying52 (.tmp rfl hv17)) ?_
 refine st (v:=.int .i64 0) (x_move .const) ?_
 refine c_nil ?_
 refine n_then ?_
 refine c_block ?_
 refine c_loop (fun ρ w mm => ∃ (i:Nat),ρ 0 = .pointer (some ⟨g_t,0,none⟩)∧ρ 1 = .int .i64 a∧ρ 21 = v10∧ρ 22 = .int .i64 (((lst (t.hr.getD a.toNat 0)).length:Nat):Int)∧ρ 23 = .int .i64 ((i:Nat):Int)∧(i ≤ (lst (t.hr.getD a.toNat 0)).length)∧(∀ (j y:Nat),j < i → (lst (t.hr.getD a.toNat 0))[j]? = some y → decide (t.hr.getD y 0 = (t.hr.getD a.toNat 0)) = true)∧St H w (row 3 1 v10 ((lst (t.hr.getD a.toNat 0)).length) ((lst (t.hr.getD a.toNat 0)).map encI)::obj g_t 64 (netCells t.n vb_t vt_t t.hr t.lost)::row 37 3 vb_t t.ps.length cb_t::row 3 1 vt_t t.bi.length ct_t::(t.ps.map (pkRes 5) ++ L))∧mm = (lst (t.hr.getD a.toNat 0)).length - i) _ ⟨0,rfl,rfl,rfl,rfl,rfl,(by omega),(fun j y h _ => absurd h (Nat.not_lt_zero _)),((((hs13.pick 3 rfl rfl).pick 3 rfl rfl).pick 3 rfl rfl).pick 3 rfl rfl),rfl⟩ ?_
 rintro ρ w mm ⟨i,hρ20,hρ21,hρ22,hρ23,hρ24,hi,ha,hs25,rfl⟩
 refine c_seq ?_
 refine c_region ?_
 have hll:(lst (t.hr.getD a.toNat 0)).length ≤ 16:=by rw [lst_length]; exact pc_le 16 _
 refine st (v:=.bool (decide ((((i:Nat):Int):Int) < (((lst (t.hr.getD a.toNat 0)).length:Nat):Int)))) (x_lss (k:=.i64) (a:=((i:Nat):Int)) (b:=(((lst (t.hr.getD a.toNat 0)).length:Nat):Int)) (.tmp rfl hρ24) (.tmp rfl hρ23)) ?_
 refine c_nil ?_
 refine n_then ?_
 refine c_seq ?_
 rcases Bool.eq_false_or_eq_true (decide ((((i:Nat):Int):Int) < (((lst (t.hr.getD a.toNat 0)).length:Nat):Int))) with hc26 | hc26
 have hp26:(((i:Nat):Int):Int) < (((lst (t.hr.getD a.toNat 0)).length:Nat):Int):=of_decide_eq_true hc26
 refine c_cond_t (t:=true) (.tmp rfl (congrArg Value.bool hc26)) rfl ?_
 refine c_skip ?_
 refine n_then ?_
 refine c_seq ?_
 refine c_block ?_
 refine c_seq ?_
 refine c_region ?_
 obtain ⟨g27,c28,hv29⟩:=ok12.pos (by omega)
 refine st (v:=.pointer (some ⟨g27,(i),none⟩)) (ixo52 (.tmp rfl (hρ22.trans hv29)) rfl (i:=((i:Nat):Int)) (.tmp rfl hρ24) (by omega) (by omega) (by omega)) ?_
 obtain ⟨z30,hz31⟩:∃ x,(lst (t.hr.getD a.toNat 0))[i]? = some x:=⟨_,List.getElem?_eq_getElem (by omega)⟩
 have:=lst_mem16 hz31
 refine st (v:=.int .i64 ((z30:Nat):Int)) (ld3 (.tmp rfl rfl) (hs25.rowEnc (enc:=encI) 0 rfl hv29 i hz31)) ?_
 refine st (v:=.int .i64 ((z30:Nat):Int)) (x_assign (.tmp rfl rfl)) ?_
 refine c_nil ?_
 refine n_then ?_
 refine c_seq ?_
 refine q_region mixed hs25 (by kernel_rfl) ?_
 refine q_st (v:=.pointer (some ⟨g_t,0,none⟩)) (fun w hs => (x_move (.tmp rfl hρ20))) ?_
 refine q_st (v:=.int .i64 ((z30:Nat):Int)) (fun w hs => (x_move (.tmp rfl rfl))) ?_
 refine q_st (v:=.pointer (some ⟨g_t,0,none⟩)) (fun w hs => (x_nilCheck (.tmp rfl rfl))) ?_
 refine q_st (v:=.pointer (some ⟨g_t,0 + 3,none⟩)) (fun w hs => (fa64_3 (.tmp rfl rfl))) ?_
 refine q_st (v:=.pointer (some ⟨g_t,(3 + z30),none⟩)) (fun w hs => (ixo62 (.tmp rfl rfl) (i:=((z30:Nat):Int)) (.tmp rfl rfl) (by omega) (by omega) (by omega))) ?_
 refine q_st (v:=.int .u16 ((t.hr.getD z30 0:Nat):Int)) (fun w hs => (ld29 (.tmp rfl rfl) (hs.cell 1 rfl (3 + z30) (net_hear ok_t.hl (by omega))))) ?_
 refine q_st (v:=.pointer (some ⟨g_t,0,none⟩)) (fun w hs => (x_move (.tmp rfl hρ20))) ?_
 refine q_st (v:=.int .i64 a) (fun w hs => (x_move (.tmp rfl hρ21))) ?_
 refine q_st (v:=.pointer (some ⟨g_t,0,none⟩)) (fun w hs => (x_nilCheck (.tmp rfl rfl))) ?_
 refine q_st (v:=.pointer (some ⟨g_t,0 + 3,none⟩)) (fun w hs => (fa64_3 (.tmp rfl rfl))) ?_
 refine q_st (v:=.pointer (some ⟨g_t,(3 + a.toNat),none⟩)) (fun w hs => (ixo62 (.tmp rfl rfl) (i:=a) (.tmp rfl rfl) (by omega) (by omega) (by omega))) ?_
 refine q_st (v:=.int .u16 ((t.hr.getD a.toNat 0:Nat):Int)) (fun w hs => (ld29 (.tmp rfl rfl) (hs.cell 1 rfl (3 + a.toNat) (net_hear ok_t.hl (by omega))))) ?_
 refine q_st (v:=.bool (decide ((((t.hr.getD z30 0:Nat):Int):Int) ≠ ((t.hr.getD a.toNat 0:Nat):Int)))) (fun w hs => (x_neq (k:=.u16) (a:=((t.hr.getD z30 0:Nat):Int)) (b:=((t.hr.getD a.toNat 0:Nat):Int)) (.tmp rfl rfl) (.tmp rfl rfl))) ?_
 refine q_nil ?_
 intro w hs32
 refine n_then ?_
 rcases Bool.eq_false_or_eq_true (decide ((((t.hr.getD z30 0:Nat):Int):Int) ≠ ((t.hr.getD a.toNat 0:Nat):Int))) with hc33 | hc33
 have hp33:(((t.hr.getD z30 0:Nat):Int):Int) ≠ ((t.hr.getD a.toNat 0:Nat):Int):=of_decide_eq_true hc33
 refine c_cond_t (t:=true) (.tmp rfl (congrArg Value.bool hc33)) rfl ?_
 refine c_seq ?_
 refine c_region ?_
 refine st (v:=.int .u16 0) (x_assign .const) ?_
 refine c_nil ?_
 refine n_then ?_
 refine c_ret ?_
 refine r_block ?_
 refine r_then ?_
 refine r_then ?_
 refine r_block ?_
 refine r_then ?_
 refine leave_ret (res_one (v:=.int .u16 0) rfl (.mk rfl rfl)) ?_
 have hans34:(t.cls a) = 0:=cls_no hz31 (by omega)
 rw [hans34]
 exact ⟨rfl,(((hs32.drop.pick 2 rfl rfl).pick 2 rfl rfl).pick 2 rfl rfl)⟩
 have hp33:¬ ((((t.hr.getD z30 0:Nat):Int):Int) ≠ ((t.hr.getD a.toNat 0:Nat):Int)):=of_decide_eq_false hc33
 refine c_cond_f (t:=false) (.tmp rfl (congrArg Value.bool hc33)) rfl ?_
 refine c_skip ?_
 refine n_block ?_
 refine n_then ?_
 refine c_region ?_
 refine st (v:=.int .i64 (((i + 1):Nat):Int)) (x_add (k:=.i64) (a:=((i:Nat):Int)) (b:=1) (.tmp rfl hρ24) .const ((w64 (by omega) (by omega)).trans (by omega))) ?_
 refine st (v:=.int .i64 (((i + 1):Nat):Int)) (x_move (.tmp rfl rfl)) ?_
 refine c_nil ?_
 refine n_then ⟨_,_,rfl,?_,(i + 1),hρ20,hρ21,hρ22,hρ23,rfl,(by omega),(nodes_next (p:=fun k => decide (t.hr.getD k 0 = (t.hr.getD a.toNat 0))) ha hz31 (decide_eq_true (by omega))),((((hs32.pick 3 rfl rfl).pick 3 rfl rfl).pick 3 rfl rfl).pick 3 rfl rfl),rfl⟩
 omega
 have hp26:¬ ((((i:Nat):Int):Int) < (((lst (t.hr.getD a.toNat 0)).length:Nat):Int)):=of_decide_eq_false hc26
 refine c_cond_f (t:=false) (.tmp rfl (congrArg Value.bool hc26)) rfl ?_
 refine c_exit ?_
 refine x_then ?_
 refine x_then ?_
 refine x_here ?_
 refine n_then ?_
 refine c_seq ?_
 refine c_region ?_
 refine st (v:=.pointer (some ⟨g_t,0,none⟩)) (x_move (.tmp rfl hρ20)) ?_
 refine st (v:=.int .i64 a) (x_move (.tmp rfl hρ21)) ?_
 refine st (v:=.pointer (some ⟨g_t,0,none⟩)) (x_nilCheck (.tmp rfl rfl)) ?_
 refine st (v:=.pointer (some ⟨g_t,0 + 3,none⟩)) (fa64_3 (.tmp rfl rfl)) ?_
 refine st (v:=.pointer (some ⟨g_t,(3 + a.toNat),none⟩)) (ixo62 (.tmp rfl rfl) (i:=a) (.tmp rfl rfl) (by omega) (by omega) (by omega)) ?_
 refine st (v:=.int .u16 ((t.hr.getD a.toNat 0:Nat):Int)) (ld29 (.tmp rfl rfl) (hs25.cell 1 rfl (3 + a.toNat) (net_hear ok_t.hl (by omega)))) ?_
 refine st (v:=.int .u16 ((t.hr.getD a.toNat 0:Nat):Int)) (x_assign (.tmp rfl rfl)) ?_
 refine c_nil ?_
 refine n_then ?_
 refine c_ret ?_
 refine leave_ret (res_one (v:=.int .u16 ((t.hr.getD a.toNat 0:Nat):Int)) rfl (.mk rfl rfl)) ?_
 have hans35:(t.cls a) = (t.hr.getD a.toNat 0):=cls_yes hc9 ha (by omega)
 rw [hans35]
 exact ⟨rfl,(((hs25.drop.pick 2 rfl rfl).pick 2 rfl rfl).pick 2 rfl rfl)⟩
 refine c_cond_t (t:=true) (.tmp rfl (congrArg Value.bool (by rw [hc9]; rfl))) rfl ?_
 refine c_seq ?_
 refine c_region ?_
 refine st (v:=.int .u16 0) (x_assign .const) ?_
 refine c_nil ?_
 refine n_then ?_
 refine c_ret ?_
 refine r_then ?_
 refine leave_ret (res_one (v:=.int .u16 0) rfl (.mk rfl rfl)) ?_
 have hans36:(t.cls a) = 0:=cls_out hc9
 rw [hans36]
 exact ⟨rfl,(((hs8.pick 2 rfl rfl).pick 2 rfl rfl).pick 2 rfl rfl)⟩
set_option maxHeartbeats 8000000 in
theorem new_spec {H:Hp} {w:World} {L:List Res} (hs:St H w (L)) (n:Int) (b_n:IB n) (h1:1 ≤ n) (h2:n ≤ 16):Calls Tryd.prog 12 #[.int .i64 n] w (fun e w' => ∃ (g0:Nat) (vb0:Value) (cb0:List Value) (vt0:Value) (ct0:List Value),e = .returned (.tuple #[.pointer (some ⟨g0,0,none⟩),.int .i64 0])∧NetOk H (netNew n) vb0 cb0 vt0 ct0∧St H w' (netG 64 37 3 5 g0 (netNew n) vb0 cb0 vt0 ct0 (L))):=by
 obtain ⟨b_n1,b_n2⟩:=b_n
 refine enter (args:=[.int .i64 n]) (N:=29) Tryd.func12 rfl rfl rfl ?_
 refine c_seq ?_
 refine c_region ?_
 refine st (v:=.pointer none) (x_assign .const) ?_
 refine st (v:=.int .i64 0) (x_assign .const) ?_
 refine c_nil ?_
 refine n_then ?_
 refine c_seq ?_
 refine c_seq ?_
 refine c_region ?_
 refine st (v:=.int .i64 n) (x_move (.tmp rfl rfl)) ?_
 refine st (v:=.bool (decide ((n:Int) < 1))) (x_lss (k:=.i64) (a:=n) (b:=1) (.tmp rfl rfl) .const) ?_
 refine st (v:=.bool (decide ((n:Int) < 1))) (x_move (.tmp rfl rfl)) ?_
 have hc1:(decide ((n:Int) < 1)) = false:=decide_eq_false (by omega)
 refine g_yes (yl (dj:=8) (b:=false) rfl rfl (congrArg Value.bool hc1)) ?_
 refine st (v:=.int .i64 n) (x_move (.tmp rfl rfl)) ?_
 refine g_yes (yl (dj:=8) (b:=false) rfl rfl (congrArg Value.bool hc1)) ?_
 refine st (v:=.bool (decide ((16:Int) < n))) (x_gtr (k:=.i64) (a:=n) (b:=16) (.tmp rfl rfl) .const) ?_
 refine st (v:=.bool (decide ((16:Int) < n))) (x_pick_f (.tmp rfl (congrArg Value.bool hc1)) (.tmp rfl rfl)) ?_
 refine c_nil ?_
 refine n_then ?_
 have hc2:(decide ((16:Int) < n)) = false:=decide_eq_false (by omega)
 refine c_cond_f (t:=false) (.tmp rfl (congrArg Value.bool hc2)) rfl ?_
 refine c_skip ?_
 refine n_then ?_
 refine c_seq ?_
 refine c_region ?_
 refine st (v:=.int .i64 n) (x_move (.tmp rfl rfl)) ?_
 refine st (v:=.agg #[.int .i64 n,.slice none 0 0,.slice none 0 0,.int .u16 0,.int .u16 0,.int .u16 0,.int .u16 0,.int .u16 0,.int .u16 0,.int .u16 0,.int .u16 0,.int .u16 0,.int .u16 0,.int .u16 0,.int .u16 0,.int .u16 0,.int .u16 0,.int .u16 0,.int .u16 0,.int .i64 0]) (bl64 (ps:=[(0,.int .i64 n)]) (.cons (.tmp rfl rfl) Evp.nil) rfl) ?_
 refine st_m (m_box (cs:=[.int .i64 n,.slice none 0 0,.slice none 0 0,.int .u16 0,.int .u16 0,.int .u16 0,.int .u16 0,.int .u16 0,.int .u16 0,.int .u16 0,.int .u16 0,.int .u16 0,.int .u16 0,.int .u16 0,.int .u16 0,.int .u16 0,.int .u16 0,.int .u16 0,.int .u16 0,.int .i64 0]) hs (v:=.agg #[.int .i64 n,.slice none 0 0,.slice none 0 0,.int .u16 0,.int .u16 0,.int .u16 0,.int .u16 0,.int .u16 0,.int .u16 0,.int .u16 0,.int .u16 0,.int .u16 0,.int .u16 0,.int .u16 0,.int .u16 0,.int .u16 0,.int .u16 0,.int .u16 0,.int .u16 0,.int .i64 0]) (.tmp rfl rfl) rfl) ?_
 rintro _ w4 ⟨g3,rfl,hs6⟩
 have hs7:St H _ (obj g3 64 (netCells n (.slice none 0 0) (.slice none 0 0) (List.replicate 16 0) 0)::L):=hs6
 have hs8:St H _ (row 3 1 (.slice none 0 0) (([]:List Int).length) []::obj g3 64 (netCells n (.slice none 0 0) (.slice none 0 0) (List.replicate 16 0) 0)::L):=hs7.krowNil 3 kI
 have hs9:St H _ (row 37 3 (.slice none 0 0) (([]:List Pk).length) []::row 3 1 (.slice none 0 0) (([]:List Int).length) []::obj g3 64 (netCells n (.slice none 0 0) (.slice none 0 0) (List.replicate 16 0) 0)::L):=hs8.krowNil 37 kPk
 refine st (v:=.pointer (some ⟨g3,0,none⟩)) (x_assign (.tmp rfl rfl)) ?_
 refine c_nil ?_
 refine n_then ?_
 refine c_seq ?_
 refine c_seq ?_
 refine c_region ?_
 refine st (v:=.int .i64 n) (x_move (.tmp rfl rfl)) ?_
 refine st (v:=.int .i64 0) (x_move .const) ?_
 refine c_nil ?_
 refine n_then ?_
 refine c_block ?_
 refine c_loop (fun ρ w mm => ∃ (i:Nat),ρ 0 = .int .i64 n∧ρ 4 = .pointer (some ⟨g3,0,none⟩)∧ρ 15 = .int .i64 n∧ρ 16 = .int .i64 ((i:Nat):Int)∧(i ≤ n.toNat)∧St H w (obj g3 64 (netCells n (.slice none 0 0) (.slice none 0 0) (List.replicate i (2 ^ n.toNat - 1) ++ List.replicate (16 - i) 0) 0)::row 37 3 (.slice none 0 0) (([]:List Pk).length) []::row 3 1 (.slice none 0 0) (([]:List Int).length) []::L)∧mm = n.toNat - i) _ ⟨0,rfl,rfl,rfl,rfl,(by omega),(((hs9.pick 1 rfl rfl).pick 1 rfl rfl).pick 2 rfl rfl),rfl⟩ ?_
 rintro ρ w mm ⟨i,hρ11,hρ12,hρ13,hρ14,hi,hs15,rfl⟩
 refine c_seq ?_
 refine c_region ?_
 refine st (v:=.bool (decide ((((i:Nat):Int):Int) < n))) (x_lss (k:=.i64) (a:=((i:Nat):Int)) (b:=n) (.tmp rfl hρ14) (.tmp rfl hρ13)) ?_
 refine c_nil ?_
 refine n_then ?_
 refine c_seq ?_
 rcases Bool.eq_false_or_eq_true (decide ((((i:Nat):Int):Int) < n)) with hc16 | hc16
 have hp16:(((i:Nat):Int):Int) < n:=of_decide_eq_true hc16
 refine c_cond_t (t:=true) (.tmp rfl (congrArg Value.bool hc16)) rfl ?_
 refine c_skip ?_
 refine n_then ?_
 refine c_seq ?_
 refine c_block ?_
 refine c_seq ?_
 refine c_region ?_
 refine st (v:=.int .i64 ((i:Nat):Int)) (x_move (.tmp rfl hρ14)) ?_
 refine st (v:=.int .i64 ((i:Nat):Int)) (x_assign (.tmp rfl rfl)) ?_
 refine c_nil ?_
 refine n_then ?_
 refine s_region (L:=obj g3 64 (netCells n (.slice none 0 0) (.slice none 0 0) (List.replicate i (2 ^ n.toNat - 1) ++ List.replicate (16 - i) 0) 0)::row 37 3 (.slice none 0 0) (([]:List Pk).length) []::row 3 1 (.slice none 0 0) (([]:List Int).length) []::L) (L':=row 37 3 (.slice none 0 0) (([]:List Pk).length) []::row 3 1 (.slice none 0 0) (([]:List Int).length) []::L) none [(0,true),(1,true),(2,true),(3,true),(4,true),(5,true),(6,true),(7,true),(8,false)] mixed hs15 (fun u hu => hu.drop) (by kernel_rfl) ?_
 intro w17 hs18
 refine s_st (k:=0) (v:=.pointer (some ⟨g3,0,none⟩)) rfl (fun w hs => (x_move (.tmp rfl hρ12))) ?_
 refine s_st (k:=1) (v:=.int .i64 ((i:Nat):Int)) rfl (fun w hs => (x_move (.tmp rfl rfl))) ?_
 refine s_st (k:=2) (v:=.int .i64 n) rfl (fun w hs => (x_move (.tmp rfl hρ11))) ?_
 have hb19:(1 * 2 ^ n.toNat % 65536) < 65536:=Nat.mod_lt _ (by decide)
 refine s_st (k:=3) (v:=.int .u16 (((1 * 2 ^ n.toNat % 65536):Nat):Int)) rfl (fun w hs => (x_shl (k:=.u16) (m:=1) (b:=n) rfl .const (.tmp rfl rfl) (by omega))) ?_
 have hal:=all_sub (k:=n.toNat) (by omega) (by omega)
 refine s_st (k:=4) (v:=.int .u16 (((2 ^ n.toNat - 1):Nat):Int)) rfl (fun w hs => (x_sub (k:=.u16) (a:=(((1 * 2 ^ n.toNat % 65536):Nat):Int)) (b:=1) (.tmp rfl rfl) .const ((wrapU _ rfl _).trans (by rw [show (2 ^ IntKind.u16.bits:Int) = 65536 from rfl,hal.1]; rfl)))) ?_
 refine s_st (k:=5) (v:=.pointer (some ⟨g3,0,none⟩)) rfl (fun w hs => (x_nilCheck (.tmp rfl rfl))) ?_
 refine s_st (k:=6) (v:=.pointer (some ⟨g3,0 + 3,none⟩)) rfl (fun w hs => (fa64_3 (.tmp rfl rfl))) ?_
 refine s_st (k:=7) (v:=.pointer (some ⟨g3,(3 + i),none⟩)) rfl (fun w hs => (ixo62 (.tmp rfl rfl) (i:=((i:Nat):Int)) (.tmp rfl rfl) (by omega) (by omega) (by omega))) ?_
 refine s_eff (k:=8) rfl ?_
 refine st_m0 (sto29 (cs':=(netCells n (.slice none 0 0) (.slice none 0 0) ((List.replicate i (2 ^ n.toNat - 1) ++ List.replicate (16 - i) 0).set i (2 ^ n.toNat - 1)) 0)) (i:=3 + i) hs18 (v:=.int .u16 (((2 ^ n.toNat - 1):Nat):Int)) (.tmp rfl rfl) (.tmp rfl rfl) rfl (by rw [net_len (by simp; omega)]; omega) one1 (net_setH (by simp; omega) (by omega))) ?_
 rintro w20 hs21
 refine s_on (S':=fun u => St H u (row 37 3 (.slice none 0 0) (([]:List Pk).length) []::row 3 1 (.slice none 0 0) (([]:List Int).length) []::L)) (fun u hu => hu) hs21.drop ?_
 refine s_nil ?_
 refine n_block ?_
 refine n_then ?_
 refine c_region ?_
 refine st (v:=.int .i64 (((i + 1):Nat):Int)) (x_add (k:=.i64) (a:=((i:Nat):Int)) (b:=1) (.tmp rfl hρ14) .const ((w64 (by omega) (by omega)).trans (by omega))) ?_
 refine st (v:=.int .i64 (((i + 1):Nat):Int)) (x_move (.tmp rfl rfl)) ?_
 refine c_nil ?_
 rw [new_step (by omega)] at hs21
 refine n_then ⟨_,_,rfl,?_,(i + 1),hρ11,hρ12,hρ13,rfl,(by omega),(((hs21.pick 2 rfl rfl).pick 2 rfl rfl).pick 2 rfl rfl),rfl⟩
 omega
 have hp16:¬ ((((i:Nat):Int):Int) < n):=of_decide_eq_false hc16
 refine c_cond_f (t:=false) (.tmp rfl (congrArg Value.bool hc16)) rfl ?_
 refine c_exit ?_
 refine x_then ?_
 refine x_then ?_
 refine x_here ?_
 refine n_then ?_
 refine c_seq ?_
 refine c_region ?_
 refine st (v:=.pointer (some ⟨g3,0,none⟩)) (x_move (.tmp rfl hρ12)) ?_
 refine st (v:=.pointer (some ⟨g3,0,none⟩)) (x_assign (.tmp rfl rfl)) ?_
 refine st (v:=.int .i64 0) (x_assign .const) ?_
 refine c_nil ?_
 refine n_then ?_
 refine c_ret ?_
 refine leave_ret (res_two (v:=.pointer (some ⟨g3,0,none⟩)) (u:=.int .i64 0) rfl (.mk rfl rfl) (.mk rfl rfl)) ?_
 have hi_:i = n.toNat:=by omega
 subst hi_
 exact ⟨g3,(.slice none 0 0),[],(.slice none 0 0),[],rfl,⟨show 1 ≤ n by omega,show n ≤ 16 by omega,netNew_len (by omega) (by omega),netNew_hb (by omega),(RowOk.knil kPk),(Kn.rows_nil _ _),(RowOk.knil kI),(Kn.rows_nil _ _),rfl,Nat.zero_le _,Int.le_refl 0⟩,(((hs15.pick 2 rfl rfl).pick 2 rfl rfl).pick 2 rfl rfl)⟩
set_option maxHeartbeats 8000000 in
theorem put_spec {H:Hp} {w:World} {L:List Res} {g_t:Nat} {t:NetS} {vb_t:Value} {cb_t:List Value} {vt_t:Value} {ct_t:List Value} (hs:St H w (netG 64 37 3 5 g_t t vb_t cb_t vt_t ct_t (L))) (ok_t:NetOk H t vb_t cb_t vt_t ct_t) (p:GPacket) {k_p:List Value} (h_p:kPacket.rep H p k_p) (k:Int) (b_k:IB k) (hlost:t.lost < 4611686018427387904):Calls Tryd.prog 35 #[.pointer (some ⟨g_t,0,none⟩),.agg k_p.toArray,.int .i64 k] w (fun e w' => ∃ (t':NetS) (vb_t':Value) (cb_t':List Value) (vt_t':Value) (ct_t':List Value) (v_:Value),e = .returned (.int .i64 (t.putE p.From p.To))∧NetOk H t' vb_t' cb_t' vt_t' ct_t'∧t' = NetS.putS t p.From p.To p.Bytes k v_∧St H w' (netG 64 37 3 5 g_t t' vb_t' cb_t' vt_t' ct_t' (L))):=by
 have hn1_t:=ok_t.n1
 have hn16_t:=ok_t.n16
 have hlen_t:=ok_t.len
 have hmax_t:=ok_t.max
 have hl0_t:=ok_t.l0
 have hs:St H w (obj g_t 64 (netCells t.n vb_t vt_t t.hr t.lost)::row 37 3 vb_t t.ps.length cb_t::row 3 1 vt_t t.bi.length ct_t::(t.ps.map (pkRes 5) ++ L)):=hs
 obtain ⟨A5,n6,c7,rfl,⟨b1,b2⟩,⟨b3,b4⟩,hy8⟩:=h_p
 have:=hy8.len; have:=hy8.bnd; have:=hy8.le
 obtain ⟨b_k1,b_k2⟩:=b_k
 refine enter (args:=[.pointer (some ⟨g_t,0,none⟩),.agg #[.int .i64 p.From,.int .i64 p.To,.slice A5 n6 c7],.int .i64 k]) (N:=71) Tryd.func35 rfl rfl rfl ?_
 refine c_seq ?_
 refine c_region ?_
 refine st_m (m_box (cs:=[.int .i64 p.From,.int .i64 p.To,.slice A5 n6 c7]) hs (v:=.agg #[.int .i64 p.From,.int .i64 p.To,.slice A5 n6 c7]) (.tmp rfl rfl) rfl) ?_
 rintro _ w10 ⟨g9,rfl,hs12⟩
 refine st (v:=.int .i64 0) (x_assign .const) ?_
 refine c_nil ?_
 refine n_then ?_
 refine c_seq ?_
 refine c_block ?_
 refine c_seq ?_
 refine c_region ?_
 refine st (v:=.pointer (some ⟨g_t,0,none⟩)) (x_move (.tmp rfl rfl)) ?_
 refine st (v:=.bool false) (x_eqlP Tryd.underlying24 (.tmp rfl rfl) .const rfl) ?_
 refine st (v:=.bool false) (x_assign (.tmp rfl rfl)) ?_
 refine c_nil ?_
 refine n_then ?_
 refine c_cond_f (t:=false) (.tmp rfl rfl) rfl ?_
 refine c_seq ?_
 refine c_region ?_
 refine st (v:=.pointer (some ⟨g_t,0,none⟩)) (x_move (.tmp rfl rfl)) ?_
 refine st (v:=.pointer (some ⟨g9,0 + 0,none⟩)) (fa37_0 (.tmp rfl rfl)) ?_
 refine st (v:=.int .i64 p.From) (ld3 (.tmp rfl rfl) (hs12.cell 0 rfl (0 + 0) rfl)) ?_
 have hs13:=hs12.p3
 have hs14:=hs13.p3
 have hs15:=hs14.p3
 have okn16:NetOk H t vb_t cb_t vt_t ct_t:=⟨hn1_t,hn16_t,ok_t.hl,ok_t.hb,ok_t.okb,ok_t.hkb,ok_t.okt,ok_t.hkt,(show t.bi.length = t.ps.length by first | exact hlen_t | (rw [List.length_eraseIdx,List.length_eraseIdx,hlen_t]) | (simp; omega)),(show t.ps.length ≤ 4096 by first | exact hmax_t | exact Nat.le_trans (List.length_eraseIdx_le ..) hmax_t | (simp; omega)),(show 0 ≤ t.lost by first | exact hl0_t | omega)⟩
 have hs17:St H _ (netG 64 37 3 5 g_t t vb_t cb_t vt_t ct_t (obj g9 37 [.int .i64 p.From,.int .i64 p.To,.slice A5 n6 c7]::L)):=St.netFold [obj g9 37 [.int .i64 p.From,.int .i64 p.To,.slice A5 n6 c7]] hs15
 refine st_c cb31 .func (evs2 (.tmp rfl rfl) (.tmp rfl rfl)) (in_spec hs17 okn16 p.From ⟨b1,b2⟩ ) ?_
 rintro e w18 ⟨rfl,hs19⟩
 refine ⟨_,rfl,?_⟩
 have hs20:St H _ (obj g_t 64 (netCells t.n vb_t vt_t t.hr t.lost)::row 37 3 vb_t t.ps.length cb_t::row 3 1 vt_t t.bi.length ct_t::obj g9 37 [.int .i64 p.From,.int .i64 p.To,.slice A5 n6 c7]::(t.ps.map (pkRes 5) ++ L)):=St.netUnfold [obj g9 37 [.int .i64 p.From,.int .i64 p.To,.slice A5 n6 c7]] hs19
 refine st (v:=.bool (!(t.isIn p.From))) (x_not (.tmp rfl rfl)) ?_
 refine st (v:=.bool (!(t.isIn p.From))) (x_move (.tmp rfl rfl)) ?_
 rcases Bool.eq_false_or_eq_true (t.isIn p.From) with hc21 | hc21
 refine g_yes (yl (dj:=17) (b:=false) rfl rfl (congrArg Value.bool (by rw [hc21]; rfl))) ?_
 refine st (v:=.pointer (some ⟨g_t,0,none⟩)) (x_move (.tmp rfl rfl)) ?_
 refine g_yes (yl (dj:=17) (b:=false) rfl rfl (congrArg Value.bool (by rw [hc21]; rfl))) ?_
 refine st (v:=.pointer (some ⟨g9,0 + 1,none⟩)) (fa37_1 (.tmp rfl rfl)) ?_
 refine g_yes (yl (dj:=17) (b:=false) rfl rfl (congrArg Value.bool (by rw [hc21]; rfl))) ?_
 refine st (v:=.int .i64 p.To) (ld3 (.tmp rfl rfl) (hs20.cell 3 rfl (0 + 1) rfl)) ?_
 refine g_yes (yl (dj:=17) (b:=false) rfl rfl (congrArg Value.bool (by rw [hc21]; rfl))) ?_
 have hs22:=hs20.p2
 have hs23:=hs22.p2
 have hs24:=hs23.p2
 have okn25:NetOk H t vb_t cb_t vt_t ct_t:=⟨hn1_t,hn16_t,ok_t.hl,ok_t.hb,ok_t.okb,ok_t.hkb,ok_t.okt,ok_t.hkt,(show t.bi.length = t.ps.length by first | exact hlen_t | (rw [List.length_eraseIdx,List.length_eraseIdx,hlen_t]) | (simp; omega)),(show t.ps.length ≤ 4096 by first | exact hmax_t | exact Nat.le_trans (List.length_eraseIdx_le ..) hmax_t | (simp; omega)),(show 0 ≤ t.lost by first | exact hl0_t | omega)⟩
 have hs26:St H _ (netG 64 37 3 5 g_t t vb_t cb_t vt_t ct_t (obj g9 37 [.int .i64 p.From,.int .i64 p.To,.slice A5 n6 c7]::L)):=St.netFold [obj g9 37 [.int .i64 p.From,.int .i64 p.To,.slice A5 n6 c7]] hs24
 refine st_c cb31 .func (evs2 (.tmp rfl rfl) (.tmp rfl rfl)) (in_spec hs26 okn25 p.To ⟨b3,b4⟩ ) ?_
 rintro e w27 ⟨rfl,hs28⟩
 refine ⟨_,rfl,?_⟩
 have hs29:St H _ (obj g_t 64 (netCells t.n vb_t vt_t t.hr t.lost)::row 37 3 vb_t t.ps.length cb_t::row 3 1 vt_t t.bi.length ct_t::obj g9 37 [.int .i64 p.From,.int .i64 p.To,.slice A5 n6 c7]::(t.ps.map (pkRes 5) ++ L)):=St.netUnfold [obj g9 37 [.int .i64 p.From,.int .i64 p.To,.slice A5 n6 c7]] hs28
 refine g_yes (yl (dj:=17) (b:=false) rfl rfl (congrArg Value.bool (by rw [hc21]; rfl))) ?_
 refine st (v:=.bool (!(t.isIn p.To))) (x_not (.tmp rfl rfl)) ?_
 refine st (v:=.bool (!(t.isIn p.To))) (x_pick_f (.tmp rfl (congrArg Value.bool (by rw [hc21]; rfl))) (.tmp rfl rfl)) ?_
 refine st (v:=.bool (!(t.isIn p.To))) (x_assign (.tmp rfl rfl)) ?_
 refine c_nil ?_
 refine n_then ?_
 rcases Bool.eq_false_or_eq_true (t.isIn p.To) with hc30 | hc30
 refine c_cond_f (t:=false) (.tmp rfl (congrArg Value.bool (by rw [hc30]; rfl))) rfl ?_
 refine c_seq ?_
 refine c_region ?_
 refine st (v:=.pointer (some ⟨g_t,0,none⟩)) (x_move (.tmp rfl rfl)) ?_
 refine st (v:=.pointer (some ⟨g_t,0,none⟩)) (x_nilCheck (.tmp rfl rfl)) ?_
 refine st (v:=.pointer (some ⟨g_t,0 + 1,none⟩)) (fa64_1 (.tmp rfl rfl)) ?_
 refine st (v:=vb_t) (ld51 (.tmp rfl rfl) (hs29.cell 0 rfl (0 + 1) rfl)) ?_
 obtain ⟨A31,c32,hv33,hc34⟩:=ok_t.okb.slice
 refine st (v:=.int .i64 ((t.ps.length:Nat):Int)) (x_len (n:=t.ps.length) Tryd.underlying51 (.tmp rfl hv33)) ?_
 refine st (v:=.bool (decide ((4096:Int) ≤ ((t.ps.length:Nat):Int)))) (x_geq (k:=.i64) (a:=((t.ps.length:Nat):Int)) (b:=4096) (.tmp rfl rfl) .const) ?_
 refine st (v:=.bool (decide ((4096:Int) ≤ ((t.ps.length:Nat):Int)))) (x_assign (.tmp rfl rfl)) ?_
 refine c_nil ?_
 refine n_then ?_
 rcases Bool.eq_false_or_eq_true (decide ((4096:Int) ≤ ((t.ps.length:Nat):Int))) with hc35 | hc35
 have hp35:(4096:Int) ≤ ((t.ps.length:Nat):Int):=of_decide_eq_true hc35
 refine c_cond_t (t:=true) (.tmp rfl (congrArg Value.bool hc35)) rfl ?_
 refine c_seq ?_
 refine c_region ?_
 refine st (v:=.pointer (some ⟨g_t,0,none⟩)) (x_move (.tmp rfl rfl)) ?_
 refine st (v:=.pointer (some ⟨g_t,0,none⟩)) (x_nilCheck (.tmp rfl rfl)) ?_
 refine st (v:=.pointer (some ⟨g_t,0 + 19,none⟩)) (fa64_4 (.tmp rfl rfl)) ?_
 refine st (v:=.int .i64 t.lost) (ld3 (.tmp rfl rfl) (hs29.cell 0 rfl (0 + 19) (net_lost ok_t.hl))) ?_
 refine st (v:=.int .i64 (t.lost + 1)) (x_add (k:=.i64) (a:=t.lost) (b:=1) (.tmp rfl rfl) .const (w64 (by omega) (by omega))) ?_
 refine st (v:=.pointer (some ⟨g_t,0,none⟩)) (x_nilCheck (.tmp rfl rfl)) ?_
 refine st (v:=.pointer (some ⟨g_t,0 + 19,none⟩)) (fa64_4 (.tmp rfl rfl)) ?_
 refine st_m0 (sto3 (cs':=(netCells t.n vb_t vt_t t.hr (t.lost + 1))) (i:=0 + 19) hs29 (v:=.int .i64 (t.lost + 1)) (.tmp rfl rfl) (.tmp rfl rfl) rfl (by rw [net_len ok_t.hl]; omega) one1 (net_setL ok_t.hl _)) ?_
 rintro w36 hs37
 refine c_nil ?_
 refine n_then ?_
 refine c_seq ?_
 refine c_region ?_
 refine st (v:=.int .i64 7) (x_assign .const) ?_
 refine c_nil ?_
 refine n_then ?_
 refine c_ret ?_
 refine r_block ?_
 refine r_then ?_
 refine leave_ret (res_one (v:=.int .i64 7) rfl (.mk rfl rfl)) ?_
 have hans38:(t.putE p.From p.To) = 7:=putE_full hc21 hc30 (by omega)
 rw [hans38]
 exact ⟨(NetS.mk t.n t.hr t.ps t.bi (t.lost + 1)),vb_t,cb_t,vt_t,ct_t,(.slice none 0 0),rfl,⟨hn1_t,hn16_t,ok_t.hl,ok_t.hb,ok_t.okb,ok_t.hkb,ok_t.okt,ok_t.hkt,(show t.bi.length = t.ps.length by first | exact hlen_t | (rw [List.length_eraseIdx,List.length_eraseIdx,hlen_t]) | (simp; omega)),(show t.ps.length ≤ 4096 by first | exact hmax_t | exact Nat.le_trans (List.length_eraseIdx_le ..) hmax_t | (simp; omega)),(show 0 ≤ (t.lost + 1) by first | exact hl0_t | omega)⟩,putS_full hc21 hc30 (by omega),((((hs37.pick 3 rfl rfl).drop.pick 2 rfl rfl).pick 2 rfl rfl).pick 2 rfl rfl)⟩
 have hp35:¬ ((4096:Int) ≤ ((t.ps.length:Nat):Int)):=of_decide_eq_false hc35
 refine c_cond_f (t:=false) (.tmp rfl (congrArg Value.bool hc35)) rfl ?_
 refine c_skip ?_
 refine n_block ?_
 refine n_then ?_
 refine c_seq ?_
 refine c_region ?_
 refine st (v:=.pointer (some ⟨g9,0 + 2,none⟩)) (fa37_2 (.tmp rfl rfl)) ?_
 refine st (v:=.slice A5 n6 c7) (ld22 (.tmp rfl rfl) (hs29.cell 3 rfl (0 + 2) rfl)) ?_
 refine st (v:=.int .i64 ((n6:Nat):Int)) (x_len (n:=n6) Tryd.underlying22 (.tmp rfl rfl)) ?_
 obtain ⟨i39,e40,e41,e42,e43⟩:=inf5
 refine st_m (m_make (i:=((n6:Nat):Int)) Tryd.underlying22 e40 e41 e42 rfl hs29 (.tmp rfl rfl) (.tmp rfl rfl) (by omega) (by rw [e43]; omega) (by simp only [maxLen]; omega)) ?_
 rintro _ w44 ⟨g45,rfl,hs46,ok47⟩
 have hs46:St H _ (row 5 1 (.slice (some ⟨g45,0,none⟩) n6 n6) n6 (List.replicate n6 (.int .u8 0))::obj g_t 64 (netCells t.n vb_t vt_t t.hr t.lost)::row 37 3 vb_t t.ps.length cb_t::row 3 1 vt_t t.bi.length ct_t::obj g9 37 [.int .i64 p.From,.int .i64 p.To,.slice A5 n6 c7]::(t.ps.map (pkRes 5) ++ L)):=hs46
 refine st (v:=.slice (some ⟨g45,0,none⟩) n6 n6) (x_assign (.tmp rfl rfl)) ?_
 refine c_nil ?_
 refine n_then ?_
 refine c_seq ?_
 refine c_region ?_
 refine st (v:=.slice (some ⟨g45,0,none⟩) n6 n6) (x_move (.tmp rfl rfl)) ?_
 refine st (v:=.pointer (some ⟨g9,0 + 2,none⟩)) (fa37_2 (.tmp rfl rfl)) ?_
 refine st (v:=.slice A5 n6 c7) (ld22 (.tmp rfl rfl) (hs46.cell 4 rfl (0 + 2) rfl)) ?_
 refine st_m (m_copyBs Tryd.underlying22 inf5 hs46 (.tmp rfl rfl) (.tmp rfl rfl) hy8.toBs) ?_
 rintro _ w49 ⟨rfl,ok51,hs50⟩
 refine c_nil ?_
 refine n_then ?_
 refine c_seq ?_
 refine t_region (L:=row 5 1 (.slice (some ⟨g45,0,none⟩) n6 n6) p.Bytes.length (p.Bytes.map encB)::obj g_t 64 (netCells t.n vb_t vt_t t.hr t.lost)::row 37 3 vb_t t.ps.length cb_t::row 3 1 vt_t t.bi.length ct_t::obj g9 37 [.int .i64 p.From,.int .i64 p.To,.slice A5 n6 c7]::(t.ps.map (pkRes 5) ++ L)) (L':=row 5 1 (.slice (some ⟨g45,0,none⟩) n6 n6) p.Bytes.length (p.Bytes.map encB)::obj g_t 64 (netCells t.n vb_t vt_t t.hr t.lost)::row 3 1 vt_t t.bi.length ct_t::obj g9 37 [.int .i64 p.From,.int .i64 p.To,.slice A5 n6 c7]::(t.ps.map (pkRes 5) ++ L)) (Z:=[20,23,26]) (F:=[0,1,2,6,8]) (pl:=(.q 0 (.q 1 (.q 2 (.q 3 (.q 4 (.q 5 (.q 6 (.q 7 (.q 8 (.q 9 (.q 10 (.q 11 (.q 14 (.q 15 (.q 16 (.q 17 (.q 18 (.two 12 (.two 13 (.e 19 (.e 20 (.q 21 (.q 22 (.e 23 (.q 24 (.q 25 (.e 26 .done)))))))) 19 (.e 13 (.e 20 (.q 21 (.q 22 (.e 23 (.q 24 (.q 25 (.e 26 .done))))))))) 19 (.e 12 (.e 13 (.e 20 (.q 21 (.q 22 (.e 23 (.q 24 (.q 25 (.e 26 .done)))))))))))))))))))))))))))) mixed hs50 (fun u hu => (hu.pick 2 rfl rfl).drop) (by kernel_rfl) ?_
 intro w52 hs53
 refine t_fr (k:=0) (v:=.pointer (some ⟨g_t,0,none⟩)) rfl (fun w _ => (x_move (.tmp rfl rfl))) ?_
 refine t_fr (k:=1) (v:=.pointer (some ⟨g_t,0,none⟩)) rfl (fun w _ => (x_move (.tmp rfl rfl))) ?_
 refine t_fr (k:=2) (v:=.pointer (some ⟨g_t,0,none⟩)) rfl (fun w _ => (x_move (.tmp rfl rfl))) ?_
 refine t_st (k:=3) (v:=.pointer (some ⟨g_t,0,none⟩)) rfl rfl (fun w hs => (x_nilCheck (.tmp rfl rfl))) ?_
 refine t_st (k:=4) (v:=.pointer (some ⟨g_t,0 + 1,none⟩)) rfl rfl (fun w hs => (fa64_1 (.tmp rfl rfl))) ?_
 refine t_st (k:=5) (v:=vb_t) rfl rfl (fun w hs => (ld51 (.tmp rfl rfl) (hs.cell 1 rfl (0 + 1) rfl))) ?_
 refine t_fr (k:=6) (v:=.pointer (some ⟨g9,0 + 0,none⟩)) rfl (fun w _ => (fa37_0 (.tmp rfl rfl))) ?_
 refine t_st (k:=7) (v:=.int .i64 p.From) rfl rfl (fun w hs => (ld3 (.tmp rfl rfl) (hs.cell 3 rfl (0 + 0) rfl))) ?_
 refine t_fr (k:=8) (v:=.pointer (some ⟨g9,0 + 1,none⟩)) rfl (fun w _ => (fa37_1 (.tmp rfl rfl))) ?_
 refine t_st (k:=9) (v:=.int .i64 p.To) rfl rfl (fun w hs => (ld3 (.tmp rfl rfl) (hs.cell 3 rfl (0 + 1) rfl))) ?_
 refine t_st (k:=10) (v:=.slice (some ⟨g45,0,none⟩) n6 n6) rfl rfl (fun w hs => (x_move (.tmp rfl rfl))) ?_
 refine t_st (k:=11) (v:=.agg #[.int .i64 p.From,.int .i64 p.To,.slice (some ⟨g45,0,none⟩) n6 n6]) rfl rfl (fun w hs => (bl37 (ps:=[(0,.int .i64 p.From),(1,.int .i64 p.To),(2,.slice (some ⟨g45,0,none⟩) n6 n6)]) (.cons (.tmp rfl rfl) (.cons (.tmp rfl rfl) (.cons (.tmp rfl rfl) Evp.nil))) rfl)) ?_
 refine t_st (k:=14) (v:=.pointer (some ⟨g_t,0,none⟩)) rfl rfl (fun w hs => (x_move (.tmp rfl rfl))) ?_
 refine t_st (k:=15) (v:=.pointer (some ⟨g_t,0,none⟩)) rfl rfl (fun w hs => (x_nilCheck (.tmp rfl rfl))) ?_
 refine t_st (k:=16) (v:=.pointer (some ⟨g_t,0 + 2,none⟩)) rfl rfl (fun w hs => (fa64_2 (.tmp rfl rfl))) ?_
 refine t_st (k:=17) (v:=vt_t) rfl rfl (fun w hs => (ld52 (.tmp rfl rfl) (hs.cell 1 rfl (0 + 2) rfl))) ?_
 refine t_st (k:=18) (v:=.int .i64 k) rfl rfl (fun w hs => (x_move (.tmp rfl rfl))) ?_
 refine t_two ?_ ?_
 refine t_eff (k:=12) rfl ?_
 refine st_m (m_lit (n:=1) (ps:=[(0,.agg #[.int .i64 p.From,.int .i64 p.To,.slice (some ⟨g45,0,none⟩) n6 n6])]) (cs:=[.int .i64 p.From,.int .i64 p.To,.slice (some ⟨g45,0,none⟩) n6 n6]) Tryd.underlying51 inf37 (.cons (.tmp rfl rfl) Evp.nil) (by decide) (by decide) rfl rfl hs53) ?_
 rintro _ w55 ⟨g54,rfl,hs57⟩
 refine t_on (S':=fun u => St H u (obj g54 37 [.int .i64 p.From,.int .i64 p.To,.slice (some ⟨g45,0,none⟩) n6 n6]::row 5 1 (.slice (some ⟨g45,0,none⟩) n6 n6) p.Bytes.length (p.Bytes.map encB)::obj g_t 64 (netCells t.n vb_t vt_t t.hr t.lost)::row 3 1 vt_t t.bi.length ct_t::obj g9 37 [.int .i64 p.From,.int .i64 p.To,.slice A5 n6 c7]::(t.ps.map (pkRes 5) ++ L))) (fun u hu => hu.drop) (hs57.pick 3 rfl rfl).drop ?_
 refine t_two ?_ ?_
 refine t_eff (k:=13) rfl ?_
 have hs58:=hs57.p3
 have hr66:kPk.rep H (Pk.mk p.From p.To (.slice (some ⟨g45,0,none⟩) n6 n6) p.Bytes) [.int .i64 p.From,.int .i64 p.To,.slice (some ⟨g45,0,none⟩) n6 n6]:=⟨rfl,⟨b1,b2⟩,⟨b3,b4⟩,ok51,hy8.toBs.lt,(show p.Bytes.length ≤ 140737488351232 by omega)⟩
 refine st_m (m_appK (d:=kPk) (ys:=[(Pk.mk p.From p.To (.slice (some ⟨g45,0,none⟩) n6 n6) p.Bytes)]) (news:=[.int .i64 p.From,.int .i64 p.To,.slice (some ⟨g45,0,none⟩) n6 n6]) Tryd.underlying51 inf37 rfl hs58 ok_t.okb ok_t.hkb (.tmp rfl rfl) (.tmp rfl rfl) (Kn.rows_one hr66) rfl (hs58.at_ 1 rfl 0 rfl) (by have:([(Pk.mk p.From p.To (.slice (some ⟨g45,0,none⟩) n6 n6) p.Bytes)]:List Pk).length = 1:=rfl; omega) (by decide)) ?_
 rintro v59 w60 ⟨cs61,ok62,hk63,hs64⟩
 have hn65:(t.ps ++ [(Pk.mk p.From p.To (.slice (some ⟨g45,0,none⟩) n6 n6) p.Bytes)]).length = t.ps.length + 1:=by simp
 refine t_on (S':=fun u => St H u (obj g54 37 [.int .i64 p.From,.int .i64 p.To,.slice (some ⟨g45,0,none⟩) n6 n6]::row 5 1 (.slice (some ⟨g45,0,none⟩) n6 n6) p.Bytes.length (p.Bytes.map encB)::obj g_t 64 (netCells t.n vb_t vt_t t.hr t.lost)::row 3 1 vt_t t.bi.length ct_t::obj g9 37 [.int .i64 p.From,.int .i64 p.To,.slice A5 n6 c7]::(t.ps.map (pkRes 5) ++ L))) (fun u hu => hu) hs64.drop ?_
 refine t_eff (k:=19) rfl ?_
 refine st_m (m_lit (n:=1) (ps:=[(0,.int .i64 k)]) (cs:=[.int .i64 k]) Tryd.underlying52 inf3 (.cons (.tmp rfl rfl) Evp.nil) (by decide) (by decide) rfl rfl hs64) ?_
 rintro _ w68 ⟨g67,rfl,hs70⟩
 refine t_on (S':=fun u => St H u (obj g67 3 [.int .i64 k]::obj g54 37 [.int .i64 p.From,.int .i64 p.To,.slice (some ⟨g45,0,none⟩) n6 n6]::row 5 1 (.slice (some ⟨g45,0,none⟩) n6 n6) p.Bytes.length (p.Bytes.map encB)::obj g_t 64 (netCells t.n vb_t vt_t t.hr t.lost)::row 3 1 vt_t t.bi.length ct_t::obj g9 37 [.int .i64 p.From,.int .i64 p.To,.slice A5 n6 c7]::(t.ps.map (pkRes 5) ++ L))) (fun u hu => hu.drop) (hs70.pick 1 rfl rfl).drop ?_
 refine t_eff (k:=20) rfl ?_
 have hs71:=hs70.p5
 have hr79:kI.rep H k [.int .i64 k]:=⟨rfl,⟨b_k1,b_k2⟩⟩
 refine st_m (m_appK (d:=kI) (ys:=[k]) (news:=[.int .i64 k]) Tryd.underlying52 inf3 rfl hs71 ok_t.okt ok_t.hkt (.tmp rfl rfl) (.tmp rfl rfl) (Kn.rows_one hr79) rfl (hs71.at_ 1 rfl 0 rfl) (by have:([k]:List Int).length = 1:=rfl; omega) (by decide)) ?_
 rintro v72 w73 ⟨cs74,ok75,hk76,hs77⟩
 have hn78:(t.bi ++ [k]).length = t.bi.length + 1:=by simp
 refine t_new (S':=fun u => St H u (row 3 1 v72 ((t.bi ++ [k]).length) cs74::obj g67 3 [.int .i64 k]::row 37 3 v59 ((t.ps ++ [(Pk.mk p.From p.To (.slice (some ⟨g45,0,none⟩) n6 n6) p.Bytes)]).length) cs61::obj g54 37 [.int .i64 p.From,.int .i64 p.To,.slice (some ⟨g45,0,none⟩) n6 n6]::row 5 1 (.slice (some ⟨g45,0,none⟩) n6 n6) p.Bytes.length (p.Bytes.map encB)::obj g_t 64 (netCells t.n vb_t vt_t t.hr t.lost)::obj g9 37 [.int .i64 p.From,.int .i64 p.To,.slice A5 n6 c7]::(t.ps.map (pkRes 5) ++ L))) rfl hs77 ?_
 refine t_st (k:=21) (v:=.pointer (some ⟨g_t,0,none⟩)) rfl rfl (fun w hs => (x_nilCheck (.tmp rfl rfl))) ?_
 refine t_st (k:=22) (v:=.pointer (some ⟨g_t,0 + 1,none⟩)) rfl rfl (fun w hs => (fa64_1 (.tmp rfl rfl))) ?_
 refine t_eff (k:=23) rfl ?_
 obtain ⟨A80,c81,rfl,hc82⟩:=ok62.slice
 have hs83:=hs77.p5
 refine st_m0 (sto51 (cs':=(netCells t.n (.slice A80 ((t.ps ++ [(Pk.mk p.From p.To (.slice (some ⟨g45,0,none⟩) n6 n6) p.Bytes)]).length) c81) vt_t t.hr t.lost)) (i:=0 + 1) hs83 (v:=.slice A80 ((t.ps ++ [(Pk.mk p.From p.To (.slice (some ⟨g45,0,none⟩) n6 n6) p.Bytes)]).length) c81) (.tmp rfl rfl) (.tmp rfl rfl) rfl (by rw [net_len ok_t.hl]; omega) one1 (rfl)) ?_
 rintro w84 hs85
 refine t_new (S':=fun u => St H u (obj g_t 64 (netCells t.n (.slice A80 ((t.ps ++ [(Pk.mk p.From p.To (.slice (some ⟨g45,0,none⟩) n6 n6) p.Bytes)]).length) c81) vt_t t.hr t.lost)::row 3 1 v72 ((t.bi ++ [k]).length) cs74::obj g67 3 [.int .i64 k]::row 37 3 (.slice A80 ((t.ps ++ [(Pk.mk p.From p.To (.slice (some ⟨g45,0,none⟩) n6 n6) p.Bytes)]).length) c81) ((t.ps ++ [(Pk.mk p.From p.To (.slice (some ⟨g45,0,none⟩) n6 n6) p.Bytes)]).length) cs61::obj g54 37 [.int .i64 p.From,.int .i64 p.To,.slice (some ⟨g45,0,none⟩) n6 n6]::row 5 1 (.slice (some ⟨g45,0,none⟩) n6 n6) p.Bytes.length (p.Bytes.map encB)::obj g9 37 [.int .i64 p.From,.int .i64 p.To,.slice A5 n6 c7]::(t.ps.map (pkRes 5) ++ L))) rfl hs85 ?_
 refine t_st (k:=24) (v:=.pointer (some ⟨g_t,0,none⟩)) rfl rfl (fun w hs => (x_nilCheck (.tmp rfl rfl))) ?_
 refine t_st (k:=25) (v:=.pointer (some ⟨g_t,0 + 2,none⟩)) rfl rfl (fun w hs => (fa64_2 (.tmp rfl rfl))) ?_
 refine t_eff (k:=26) rfl ?_
 obtain ⟨A86,c87,rfl,hc88⟩:=ok75.slice
 refine st_m0 (sto52 (cs':=(netCells t.n (.slice A80 ((t.ps ++ [(Pk.mk p.From p.To (.slice (some ⟨g45,0,none⟩) n6 n6) p.Bytes)]).length) c81) (.slice A86 ((t.bi ++ [k]).length) c87) t.hr t.lost)) (i:=0 + 2) hs85 (v:=.slice A86 ((t.bi ++ [k]).length) c87) (.tmp rfl rfl) (.tmp rfl rfl) rfl (by rw [net_len ok_t.hl]; omega) one1 (rfl)) ?_
 rintro w89 hs90
 refine t_new (S':=fun u => St H u (obj g_t 64 (netCells t.n (.slice A80 ((t.ps ++ [(Pk.mk p.From p.To (.slice (some ⟨g45,0,none⟩) n6 n6) p.Bytes)]).length) c81) (.slice A86 ((t.bi ++ [k]).length) c87) t.hr t.lost)::row 3 1 (.slice A86 ((t.bi ++ [k]).length) c87) ((t.bi ++ [k]).length) cs74::obj g67 3 [.int .i64 k]::row 37 3 (.slice A80 ((t.ps ++ [(Pk.mk p.From p.To (.slice (some ⟨g45,0,none⟩) n6 n6) p.Bytes)]).length) c81) ((t.ps ++ [(Pk.mk p.From p.To (.slice (some ⟨g45,0,none⟩) n6 n6) p.Bytes)]).length) cs61::obj g54 37 [.int .i64 p.From,.int .i64 p.To,.slice (some ⟨g45,0,none⟩) n6 n6]::row 5 1 (.slice (some ⟨g45,0,none⟩) n6 n6) p.Bytes.length (p.Bytes.map encB)::obj g9 37 [.int .i64 p.From,.int .i64 p.To,.slice A5 n6 c7]::(t.ps.map (pkRes 5) ++ L))) rfl hs90 ?_
 refine t_nil ?_
 refine n_then ?_
 refine c_seq ?_
 refine c_region ?_
 refine st (v:=.int .i64 0) (x_assign .const) ?_
 refine c_nil ?_
 refine n_then ?_
 refine c_ret ?_
 refine leave_ret (res_one (v:=.int .i64 0) rfl (.mk rfl rfl)) ?_
 have hans91:(t.putE p.From p.To) = 0:=putE_ok hc21 hc30 (by omega)
 rw [hans91]
 have hs92:=(((((((hs90.pick 2 rfl rfl).drop.pick 3 rfl rfl).drop.pick 4 rfl rfl).drop.pick 3 rfl rfl).pick 2 rfl rfl).pick 3 rfl rfl).pick 3 rfl rfl)
 have hs93:St H _ (obj g_t 64 (netCells t.n (.slice A80 ((t.ps ++ [(Pk.mk p.From p.To (.slice (some ⟨g45,0,none⟩) n6 n6) p.Bytes)]).length) c81) (.slice A86 ((t.bi ++ [k]).length) c87) t.hr t.lost)::row 37 3 (.slice A80 ((t.ps ++ [(Pk.mk p.From p.To (.slice (some ⟨g45,0,none⟩) n6 n6) p.Bytes)]).length) c81) ((t.ps ++ [(Pk.mk p.From p.To (.slice (some ⟨g45,0,none⟩) n6 n6) p.Bytes)]).length) cs61::row 3 1 (.slice A86 ((t.bi ++ [k]).length) c87) ((t.bi ++ [k]).length) cs74::((t.ps ++ [(Pk.mk p.From p.To (.slice (some ⟨g45,0,none⟩) n6 n6) p.Bytes)]).map (pkRes 5) ++ L)):=St.pkSnoc (p:=(Pk.mk p.From p.To (.slice (some ⟨g45,0,none⟩) n6 n6) p.Bytes)) (ps:=t.ps) hs92
 exact ⟨(NetS.mk t.n t.hr (t.ps ++ [(Pk.mk p.From p.To (.slice (some ⟨g45,0,none⟩) n6 n6) p.Bytes)]) (t.bi ++ [k]) t.lost),(.slice A80 ((t.ps ++ [(Pk.mk p.From p.To (.slice (some ⟨g45,0,none⟩) n6 n6) p.Bytes)]).length) c81),cs61,(.slice A86 ((t.bi ++ [k]).length) c87),cs74,(.slice (some ⟨g45,0,none⟩) n6 n6),rfl,⟨hn1_t,hn16_t,ok_t.hl,ok_t.hb,ok62,hk63,ok75,hk76,(show (t.bi ++ [k]).length = (t.ps ++ [(Pk.mk p.From p.To (.slice (some ⟨g45,0,none⟩) n6 n6) p.Bytes)]).length by first | exact hlen_t | (rw [List.length_eraseIdx,List.length_eraseIdx,hlen_t]) | (simp; omega)),(show (t.ps ++ [(Pk.mk p.From p.To (.slice (some ⟨g45,0,none⟩) n6 n6) p.Bytes)]).length ≤ 4096 by first | exact hmax_t | exact Nat.le_trans (List.length_eraseIdx_le ..) hmax_t | (simp; omega)),(show 0 ≤ t.lost by first | exact hl0_t | omega)⟩,putS_ok hc21 hc30 (by omega),(((hs93.pick 2 rfl rfl).pick 2 rfl rfl).pick 2 rfl rfl)⟩
 refine t_eff (k:=19) rfl ?_
 refine st_m (m_lit (n:=1) (ps:=[(0,.int .i64 k)]) (cs:=[.int .i64 k]) Tryd.underlying52 inf3 (.cons (.tmp rfl rfl) Evp.nil) (by decide) (by decide) rfl rfl hs57) ?_
 rintro _ w95 ⟨g94,rfl,hs97⟩
 refine t_on (S':=fun u => St H u (obj g94 3 [.int .i64 k]::obj g54 37 [.int .i64 p.From,.int .i64 p.To,.slice (some ⟨g45,0,none⟩) n6 n6]::row 5 1 (.slice (some ⟨g45,0,none⟩) n6 n6) p.Bytes.length (p.Bytes.map encB)::obj g_t 64 (netCells t.n vb_t vt_t t.hr t.lost)::row 3 1 vt_t t.bi.length ct_t::obj g9 37 [.int .i64 p.From,.int .i64 p.To,.slice A5 n6 c7]::(t.ps.map (pkRes 5) ++ L))) (fun u hu => hu.drop) (hs97.pick 4 rfl rfl).drop ?_
 refine t_eff (k:=13) rfl ?_
 have hs98:=hs97.p4
 have hr106:kPk.rep H (Pk.mk p.From p.To (.slice (some ⟨g45,0,none⟩) n6 n6) p.Bytes) [.int .i64 p.From,.int .i64 p.To,.slice (some ⟨g45,0,none⟩) n6 n6]:=⟨rfl,⟨b1,b2⟩,⟨b3,b4⟩,ok51,hy8.toBs.lt,(show p.Bytes.length ≤ 140737488351232 by omega)⟩
 refine st_m (m_appK (d:=kPk) (ys:=[(Pk.mk p.From p.To (.slice (some ⟨g45,0,none⟩) n6 n6) p.Bytes)]) (news:=[.int .i64 p.From,.int .i64 p.To,.slice (some ⟨g45,0,none⟩) n6 n6]) Tryd.underlying51 inf37 rfl hs98 ok_t.okb ok_t.hkb (.tmp rfl rfl) (.tmp rfl rfl) (Kn.rows_one hr106) rfl (hs98.at_ 2 rfl 0 rfl) (by have:([(Pk.mk p.From p.To (.slice (some ⟨g45,0,none⟩) n6 n6) p.Bytes)]:List Pk).length = 1:=rfl; omega) (by decide)) ?_
 rintro v99 w100 ⟨cs101,ok102,hk103,hs104⟩
 have hn105:(t.ps ++ [(Pk.mk p.From p.To (.slice (some ⟨g45,0,none⟩) n6 n6) p.Bytes)]).length = t.ps.length + 1:=by simp
 refine t_on (S':=fun u => St H u (obj g94 3 [.int .i64 k]::obj g54 37 [.int .i64 p.From,.int .i64 p.To,.slice (some ⟨g45,0,none⟩) n6 n6]::row 5 1 (.slice (some ⟨g45,0,none⟩) n6 n6) p.Bytes.length (p.Bytes.map encB)::obj g_t 64 (netCells t.n vb_t vt_t t.hr t.lost)::row 3 1 vt_t t.bi.length ct_t::obj g9 37 [.int .i64 p.From,.int .i64 p.To,.slice A5 n6 c7]::(t.ps.map (pkRes 5) ++ L))) (fun u hu => hu) hs104.drop ?_
 refine t_eff (k:=20) rfl ?_
 have hs107:=hs104.p5
 have hr115:kI.rep H k [.int .i64 k]:=⟨rfl,⟨b_k1,b_k2⟩⟩
 refine st_m (m_appK (d:=kI) (ys:=[k]) (news:=[.int .i64 k]) Tryd.underlying52 inf3 rfl hs107 ok_t.okt ok_t.hkt (.tmp rfl rfl) (.tmp rfl rfl) (Kn.rows_one hr115) rfl (hs107.at_ 2 rfl 0 rfl) (by have:([k]:List Int).length = 1:=rfl; omega) (by decide)) ?_
 rintro v108 w109 ⟨cs110,ok111,hk112,hs113⟩
 have hn114:(t.bi ++ [k]).length = t.bi.length + 1:=by simp
 refine t_new (S':=fun u => St H u (row 3 1 v108 ((t.bi ++ [k]).length) cs110::row 37 3 v99 ((t.ps ++ [(Pk.mk p.From p.To (.slice (some ⟨g45,0,none⟩) n6 n6) p.Bytes)]).length) cs101::obj g94 3 [.int .i64 k]::obj g54 37 [.int .i64 p.From,.int .i64 p.To,.slice (some ⟨g45,0,none⟩) n6 n6]::row 5 1 (.slice (some ⟨g45,0,none⟩) n6 n6) p.Bytes.length (p.Bytes.map encB)::obj g_t 64 (netCells t.n vb_t vt_t t.hr t.lost)::obj g9 37 [.int .i64 p.From,.int .i64 p.To,.slice A5 n6 c7]::(t.ps.map (pkRes 5) ++ L))) rfl hs113 ?_
 refine t_st (k:=21) (v:=.pointer (some ⟨g_t,0,none⟩)) rfl rfl (fun w hs => (x_nilCheck (.tmp rfl rfl))) ?_
 refine t_st (k:=22) (v:=.pointer (some ⟨g_t,0 + 1,none⟩)) rfl rfl (fun w hs => (fa64_1 (.tmp rfl rfl))) ?_
 refine t_eff (k:=23) rfl ?_
 obtain ⟨A116,c117,rfl,hc118⟩:=ok102.slice
 have hs119:=hs113.p5
 refine st_m0 (sto51 (cs':=(netCells t.n (.slice A116 ((t.ps ++ [(Pk.mk p.From p.To (.slice (some ⟨g45,0,none⟩) n6 n6) p.Bytes)]).length) c117) vt_t t.hr t.lost)) (i:=0 + 1) hs119 (v:=.slice A116 ((t.ps ++ [(Pk.mk p.From p.To (.slice (some ⟨g45,0,none⟩) n6 n6) p.Bytes)]).length) c117) (.tmp rfl rfl) (.tmp rfl rfl) rfl (by rw [net_len ok_t.hl]; omega) one1 (rfl)) ?_
 rintro w120 hs121
 refine t_new (S':=fun u => St H u (obj g_t 64 (netCells t.n (.slice A116 ((t.ps ++ [(Pk.mk p.From p.To (.slice (some ⟨g45,0,none⟩) n6 n6) p.Bytes)]).length) c117) vt_t t.hr t.lost)::row 3 1 v108 ((t.bi ++ [k]).length) cs110::row 37 3 (.slice A116 ((t.ps ++ [(Pk.mk p.From p.To (.slice (some ⟨g45,0,none⟩) n6 n6) p.Bytes)]).length) c117) ((t.ps ++ [(Pk.mk p.From p.To (.slice (some ⟨g45,0,none⟩) n6 n6) p.Bytes)]).length) cs101::obj g94 3 [.int .i64 k]::obj g54 37 [.int .i64 p.From,.int .i64 p.To,.slice (some ⟨g45,0,none⟩) n6 n6]::row 5 1 (.slice (some ⟨g45,0,none⟩) n6 n6) p.Bytes.length (p.Bytes.map encB)::obj g9 37 [.int .i64 p.From,.int .i64 p.To,.slice A5 n6 c7]::(t.ps.map (pkRes 5) ++ L))) rfl hs121 ?_
 refine t_st (k:=24) (v:=.pointer (some ⟨g_t,0,none⟩)) rfl rfl (fun w hs => (x_nilCheck (.tmp rfl rfl))) ?_
 refine t_st (k:=25) (v:=.pointer (some ⟨g_t,0 + 2,none⟩)) rfl rfl (fun w hs => (fa64_2 (.tmp rfl rfl))) ?_
 refine t_eff (k:=26) rfl ?_
 obtain ⟨A122,c123,rfl,hc124⟩:=ok111.slice
 refine st_m0 (sto52 (cs':=(netCells t.n (.slice A116 ((t.ps ++ [(Pk.mk p.From p.To (.slice (some ⟨g45,0,none⟩) n6 n6) p.Bytes)]).length) c117) (.slice A122 ((t.bi ++ [k]).length) c123) t.hr t.lost)) (i:=0 + 2) hs121 (v:=.slice A122 ((t.bi ++ [k]).length) c123) (.tmp rfl rfl) (.tmp rfl rfl) rfl (by rw [net_len ok_t.hl]; omega) one1 (rfl)) ?_
 rintro w125 hs126
 refine t_new (S':=fun u => St H u (obj g_t 64 (netCells t.n (.slice A116 ((t.ps ++ [(Pk.mk p.From p.To (.slice (some ⟨g45,0,none⟩) n6 n6) p.Bytes)]).length) c117) (.slice A122 ((t.bi ++ [k]).length) c123) t.hr t.lost)::row 3 1 (.slice A122 ((t.bi ++ [k]).length) c123) ((t.bi ++ [k]).length) cs110::row 37 3 (.slice A116 ((t.ps ++ [(Pk.mk p.From p.To (.slice (some ⟨g45,0,none⟩) n6 n6) p.Bytes)]).length) c117) ((t.ps ++ [(Pk.mk p.From p.To (.slice (some ⟨g45,0,none⟩) n6 n6) p.Bytes)]).length) cs101::obj g94 3 [.int .i64 k]::obj g54 37 [.int .i64 p.From,.int .i64 p.To,.slice (some ⟨g45,0,none⟩) n6 n6]::row 5 1 (.slice (some ⟨g45,0,none⟩) n6 n6) p.Bytes.length (p.Bytes.map encB)::obj g9 37 [.int .i64 p.From,.int .i64 p.To,.slice A5 n6 c7]::(t.ps.map (pkRes 5) ++ L))) rfl hs126 ?_
 refine t_nil ?_
 refine n_then ?_
 refine c_seq ?_
 refine c_region ?_
 refine st (v:=.int .i64 0) (x_assign .const) ?_
 refine c_nil ?_
 refine n_then ?_
 refine c_ret ?_
 refine leave_ret (res_one (v:=.int .i64 0) rfl (.mk rfl rfl)) ?_
 have hans127:(t.putE p.From p.To) = 0:=putE_ok hc21 hc30 (by omega)
 rw [hans127]
 have hs128:=(((((((hs126.pick 3 rfl rfl).drop.pick 3 rfl rfl).drop.pick 4 rfl rfl).drop.pick 3 rfl rfl).pick 2 rfl rfl).pick 3 rfl rfl).pick 3 rfl rfl)
 have hs129:St H _ (obj g_t 64 (netCells t.n (.slice A116 ((t.ps ++ [(Pk.mk p.From p.To (.slice (some ⟨g45,0,none⟩) n6 n6) p.Bytes)]).length) c117) (.slice A122 ((t.bi ++ [k]).length) c123) t.hr t.lost)::row 37 3 (.slice A116 ((t.ps ++ [(Pk.mk p.From p.To (.slice (some ⟨g45,0,none⟩) n6 n6) p.Bytes)]).length) c117) ((t.ps ++ [(Pk.mk p.From p.To (.slice (some ⟨g45,0,none⟩) n6 n6) p.Bytes)]).length) cs101::row 3 1 (.slice A122 ((t.bi ++ [k]).length) c123) ((t.bi ++ [k]).length) cs110::((t.ps ++ [(Pk.mk p.From p.To (.slice (some ⟨g45,0,none⟩) n6 n6) p.Bytes)]).map (pkRes 5) ++ L)):=St.pkSnoc (p:=(Pk.mk p.From p.To (.slice (some ⟨g45,0,none⟩) n6 n6) p.Bytes)) (ps:=t.ps) hs128
 exact ⟨(NetS.mk t.n t.hr (t.ps ++ [(Pk.mk p.From p.To (.slice (some ⟨g45,0,none⟩) n6 n6) p.Bytes)]) (t.bi ++ [k]) t.lost),(.slice A116 ((t.ps ++ [(Pk.mk p.From p.To (.slice (some ⟨g45,0,none⟩) n6 n6) p.Bytes)]).length) c117),cs101,(.slice A122 ((t.bi ++ [k]).length) c123),cs110,(.slice (some ⟨g45,0,none⟩) n6 n6),rfl,⟨hn1_t,hn16_t,ok_t.hl,ok_t.hb,ok102,hk103,ok111,hk112,(show (t.bi ++ [k]).length = (t.ps ++ [(Pk.mk p.From p.To (.slice (some ⟨g45,0,none⟩) n6 n6) p.Bytes)]).length by first | exact hlen_t | (rw [List.length_eraseIdx,List.length_eraseIdx,hlen_t]) | (simp; omega)),(show (t.ps ++ [(Pk.mk p.From p.To (.slice (some ⟨g45,0,none⟩) n6 n6) p.Bytes)]).length ≤ 4096 by first | exact hmax_t | exact Nat.le_trans (List.length_eraseIdx_le ..) hmax_t | (simp; omega)),(show 0 ≤ t.lost by first | exact hl0_t | omega)⟩,putS_ok hc21 hc30 (by omega),(((hs129.pick 2 rfl rfl).pick 2 rfl rfl).pick 2 rfl rfl)⟩
 refine t_eff (k:=19) rfl ?_
 refine st_m (m_lit (n:=1) (ps:=[(0,.int .i64 k)]) (cs:=[.int .i64 k]) Tryd.underlying52 inf3 (.cons (.tmp rfl rfl) Evp.nil) (by decide) (by decide) rfl rfl hs53) ?_
 rintro _ w131 ⟨g130,rfl,hs133⟩
 refine t_on (S':=fun u => St H u (obj g130 3 [.int .i64 k]::row 5 1 (.slice (some ⟨g45,0,none⟩) n6 n6) p.Bytes.length (p.Bytes.map encB)::obj g_t 64 (netCells t.n vb_t vt_t t.hr t.lost)::row 3 1 vt_t t.bi.length ct_t::obj g9 37 [.int .i64 p.From,.int .i64 p.To,.slice A5 n6 c7]::(t.ps.map (pkRes 5) ++ L))) (fun u hu => hu.drop) (hs133.pick 3 rfl rfl).drop ?_
 refine t_eff (k:=12) rfl ?_
 refine st_m (m_lit (n:=1) (ps:=[(0,.agg #[.int .i64 p.From,.int .i64 p.To,.slice (some ⟨g45,0,none⟩) n6 n6])]) (cs:=[.int .i64 p.From,.int .i64 p.To,.slice (some ⟨g45,0,none⟩) n6 n6]) Tryd.underlying51 inf37 (.cons (.tmp rfl rfl) Evp.nil) (by decide) (by decide) rfl rfl hs133) ?_
 rintro _ w135 ⟨g134,rfl,hs137⟩
 refine t_on (S':=fun u => St H u (obj g134 37 [.int .i64 p.From,.int .i64 p.To,.slice (some ⟨g45,0,none⟩) n6 n6]::obj g130 3 [.int .i64 k]::row 5 1 (.slice (some ⟨g45,0,none⟩) n6 n6) p.Bytes.length (p.Bytes.map encB)::obj g_t 64 (netCells t.n vb_t vt_t t.hr t.lost)::row 3 1 vt_t t.bi.length ct_t::obj g9 37 [.int .i64 p.From,.int .i64 p.To,.slice A5 n6 c7]::(t.ps.map (pkRes 5) ++ L))) (fun u hu => hu.drop) (hs137.pick 4 rfl rfl).drop ?_
 refine t_eff (k:=13) rfl ?_
 have hs138:=hs137.p4
 have hr146:kPk.rep H (Pk.mk p.From p.To (.slice (some ⟨g45,0,none⟩) n6 n6) p.Bytes) [.int .i64 p.From,.int .i64 p.To,.slice (some ⟨g45,0,none⟩) n6 n6]:=⟨rfl,⟨b1,b2⟩,⟨b3,b4⟩,ok51,hy8.toBs.lt,(show p.Bytes.length ≤ 140737488351232 by omega)⟩
 refine st_m (m_appK (d:=kPk) (ys:=[(Pk.mk p.From p.To (.slice (some ⟨g45,0,none⟩) n6 n6) p.Bytes)]) (news:=[.int .i64 p.From,.int .i64 p.To,.slice (some ⟨g45,0,none⟩) n6 n6]) Tryd.underlying51 inf37 rfl hs138 ok_t.okb ok_t.hkb (.tmp rfl rfl) (.tmp rfl rfl) (Kn.rows_one hr146) rfl (hs138.at_ 1 rfl 0 rfl) (by have:([(Pk.mk p.From p.To (.slice (some ⟨g45,0,none⟩) n6 n6) p.Bytes)]:List Pk).length = 1:=rfl; omega) (by decide)) ?_
 rintro v139 w140 ⟨cs141,ok142,hk143,hs144⟩
 have hn145:(t.ps ++ [(Pk.mk p.From p.To (.slice (some ⟨g45,0,none⟩) n6 n6) p.Bytes)]).length = t.ps.length + 1:=by simp
 refine t_on (S':=fun u => St H u (obj g134 37 [.int .i64 p.From,.int .i64 p.To,.slice (some ⟨g45,0,none⟩) n6 n6]::obj g130 3 [.int .i64 k]::row 5 1 (.slice (some ⟨g45,0,none⟩) n6 n6) p.Bytes.length (p.Bytes.map encB)::obj g_t 64 (netCells t.n vb_t vt_t t.hr t.lost)::row 3 1 vt_t t.bi.length ct_t::obj g9 37 [.int .i64 p.From,.int .i64 p.To,.slice A5 n6 c7]::(t.ps.map (pkRes 5) ++ L))) (fun u hu => hu) hs144.drop ?_
 refine t_eff (k:=20) rfl ?_
 have hs147:=hs144.p5
 have hr155:kI.rep H k [.int .i64 k]:=⟨rfl,⟨b_k1,b_k2⟩⟩
 refine st_m (m_appK (d:=kI) (ys:=[k]) (news:=[.int .i64 k]) Tryd.underlying52 inf3 rfl hs147 ok_t.okt ok_t.hkt (.tmp rfl rfl) (.tmp rfl rfl) (Kn.rows_one hr155) rfl (hs147.at_ 3 rfl 0 rfl) (by have:([k]:List Int).length = 1:=rfl; omega) (by decide)) ?_
 rintro v148 w149 ⟨cs150,ok151,hk152,hs153⟩
 have hn154:(t.bi ++ [k]).length = t.bi.length + 1:=by simp
 refine t_new (S':=fun u => St H u (row 3 1 v148 ((t.bi ++ [k]).length) cs150::row 37 3 v139 ((t.ps ++ [(Pk.mk p.From p.To (.slice (some ⟨g45,0,none⟩) n6 n6) p.Bytes)]).length) cs141::obj g134 37 [.int .i64 p.From,.int .i64 p.To,.slice (some ⟨g45,0,none⟩) n6 n6]::obj g130 3 [.int .i64 k]::row 5 1 (.slice (some ⟨g45,0,none⟩) n6 n6) p.Bytes.length (p.Bytes.map encB)::obj g_t 64 (netCells t.n vb_t vt_t t.hr t.lost)::obj g9 37 [.int .i64 p.From,.int .i64 p.To,.slice A5 n6 c7]::(t.ps.map (pkRes 5) ++ L))) rfl hs153 ?_
 refine t_st (k:=21) (v:=.pointer (some ⟨g_t,0,none⟩)) rfl rfl (fun w hs => (x_nilCheck (.tmp rfl rfl))) ?_
 refine t_st (k:=22) (v:=.pointer (some ⟨g_t,0 + 1,none⟩)) rfl rfl (fun w hs => (fa64_1 (.tmp rfl rfl))) ?_
 refine t_eff (k:=23) rfl ?_
 obtain ⟨A156,c157,rfl,hc158⟩:=ok142.slice
 have hs159:=hs153.p5
 refine st_m0 (sto51 (cs':=(netCells t.n (.slice A156 ((t.ps ++ [(Pk.mk p.From p.To (.slice (some ⟨g45,0,none⟩) n6 n6) p.Bytes)]).length) c157) vt_t t.hr t.lost)) (i:=0 + 1) hs159 (v:=.slice A156 ((t.ps ++ [(Pk.mk p.From p.To (.slice (some ⟨g45,0,none⟩) n6 n6) p.Bytes)]).length) c157) (.tmp rfl rfl) (.tmp rfl rfl) rfl (by rw [net_len ok_t.hl]; omega) one1 (rfl)) ?_
 rintro w160 hs161
 refine t_new (S':=fun u => St H u (obj g_t 64 (netCells t.n (.slice A156 ((t.ps ++ [(Pk.mk p.From p.To (.slice (some ⟨g45,0,none⟩) n6 n6) p.Bytes)]).length) c157) vt_t t.hr t.lost)::row 3 1 v148 ((t.bi ++ [k]).length) cs150::row 37 3 (.slice A156 ((t.ps ++ [(Pk.mk p.From p.To (.slice (some ⟨g45,0,none⟩) n6 n6) p.Bytes)]).length) c157) ((t.ps ++ [(Pk.mk p.From p.To (.slice (some ⟨g45,0,none⟩) n6 n6) p.Bytes)]).length) cs141::obj g134 37 [.int .i64 p.From,.int .i64 p.To,.slice (some ⟨g45,0,none⟩) n6 n6]::obj g130 3 [.int .i64 k]::row 5 1 (.slice (some ⟨g45,0,none⟩) n6 n6) p.Bytes.length (p.Bytes.map encB)::obj g9 37 [.int .i64 p.From,.int .i64 p.To,.slice A5 n6 c7]::(t.ps.map (pkRes 5) ++ L))) rfl hs161 ?_
 refine t_st (k:=24) (v:=.pointer (some ⟨g_t,0,none⟩)) rfl rfl (fun w hs => (x_nilCheck (.tmp rfl rfl))) ?_
 refine t_st (k:=25) (v:=.pointer (some ⟨g_t,0 + 2,none⟩)) rfl rfl (fun w hs => (fa64_2 (.tmp rfl rfl))) ?_
 refine t_eff (k:=26) rfl ?_
 obtain ⟨A162,c163,rfl,hc164⟩:=ok151.slice
 refine st_m0 (sto52 (cs':=(netCells t.n (.slice A156 ((t.ps ++ [(Pk.mk p.From p.To (.slice (some ⟨g45,0,none⟩) n6 n6) p.Bytes)]).length) c157) (.slice A162 ((t.bi ++ [k]).length) c163) t.hr t.lost)) (i:=0 + 2) hs161 (v:=.slice A162 ((t.bi ++ [k]).length) c163) (.tmp rfl rfl) (.tmp rfl rfl) rfl (by rw [net_len ok_t.hl]; omega) one1 (rfl)) ?_
 rintro w165 hs166
 refine t_new (S':=fun u => St H u (obj g_t 64 (netCells t.n (.slice A156 ((t.ps ++ [(Pk.mk p.From p.To (.slice (some ⟨g45,0,none⟩) n6 n6) p.Bytes)]).length) c157) (.slice A162 ((t.bi ++ [k]).length) c163) t.hr t.lost)::row 3 1 (.slice A162 ((t.bi ++ [k]).length) c163) ((t.bi ++ [k]).length) cs150::row 37 3 (.slice A156 ((t.ps ++ [(Pk.mk p.From p.To (.slice (some ⟨g45,0,none⟩) n6 n6) p.Bytes)]).length) c157) ((t.ps ++ [(Pk.mk p.From p.To (.slice (some ⟨g45,0,none⟩) n6 n6) p.Bytes)]).length) cs141::obj g134 37 [.int .i64 p.From,.int .i64 p.To,.slice (some ⟨g45,0,none⟩) n6 n6]::obj g130 3 [.int .i64 k]::row 5 1 (.slice (some ⟨g45,0,none⟩) n6 n6) p.Bytes.length (p.Bytes.map encB)::obj g9 37 [.int .i64 p.From,.int .i64 p.To,.slice A5 n6 c7]::(t.ps.map (pkRes 5) ++ L))) rfl hs166 ?_
 refine t_nil ?_
 refine n_then ?_
 refine c_seq ?_
 refine c_region ?_
 refine st (v:=.int .i64 0) (x_assign .const) ?_
 refine c_nil ?_
 refine n_then ?_
 refine c_ret ?_
 refine leave_ret (res_one (v:=.int .i64 0) rfl (.mk rfl rfl)) ?_
 have hans167:(t.putE p.From p.To) = 0:=putE_ok hc21 hc30 (by omega)
 rw [hans167]
 have hs168:=(((((((hs166.pick 3 rfl rfl).drop.pick 3 rfl rfl).drop.pick 4 rfl rfl).drop.pick 3 rfl rfl).pick 2 rfl rfl).pick 3 rfl rfl).pick 3 rfl rfl)
 have hs169:St H _ (obj g_t 64 (netCells t.n (.slice A156 ((t.ps ++ [(Pk.mk p.From p.To (.slice (some ⟨g45,0,none⟩) n6 n6) p.Bytes)]).length) c157) (.slice A162 ((t.bi ++ [k]).length) c163) t.hr t.lost)::row 37 3 (.slice A156 ((t.ps ++ [(Pk.mk p.From p.To (.slice (some ⟨g45,0,none⟩) n6 n6) p.Bytes)]).length) c157) ((t.ps ++ [(Pk.mk p.From p.To (.slice (some ⟨g45,0,none⟩) n6 n6) p.Bytes)]).length) cs141::row 3 1 (.slice A162 ((t.bi ++ [k]).length) c163) ((t.bi ++ [k]).length) cs150::((t.ps ++ [(Pk.mk p.From p.To (.slice (some ⟨g45,0,none⟩) n6 n6) p.Bytes)]).map (pkRes 5) ++ L)):=St.pkSnoc (p:=(Pk.mk p.From p.To (.slice (some ⟨g45,0,none⟩) n6 n6) p.Bytes)) (ps:=t.ps) hs168
 exact ⟨(NetS.mk t.n t.hr (t.ps ++ [(Pk.mk p.From p.To (.slice (some ⟨g45,0,none⟩) n6 n6) p.Bytes)]) (t.bi ++ [k]) t.lost),(.slice A156 ((t.ps ++ [(Pk.mk p.From p.To (.slice (some ⟨g45,0,none⟩) n6 n6) p.Bytes)]).length) c157),cs141,(.slice A162 ((t.bi ++ [k]).length) c163),cs150,(.slice (some ⟨g45,0,none⟩) n6 n6),rfl,⟨hn1_t,hn16_t,ok_t.hl,ok_t.hb,ok142,hk143,ok151,hk152,(show (t.bi ++ [k]).length = (t.ps ++ [(Pk.mk p.From p.To (.slice (some ⟨g45,0,none⟩) n6 n6) p.Bytes)]).length by first | exact hlen_t | (rw [List.length_eraseIdx,List.length_eraseIdx,hlen_t]) | (simp; omega)),(show (t.ps ++ [(Pk.mk p.From p.To (.slice (some ⟨g45,0,none⟩) n6 n6) p.Bytes)]).length ≤ 4096 by first | exact hmax_t | exact Nat.le_trans (List.length_eraseIdx_le ..) hmax_t | (simp; omega)),(show 0 ≤ t.lost by first | exact hl0_t | omega)⟩,putS_ok hc21 hc30 (by omega),(((hs169.pick 2 rfl rfl).pick 2 rfl rfl).pick 2 rfl rfl)⟩
 refine c_cond_t (t:=true) (.tmp rfl (congrArg Value.bool (by rw [hc30]; rfl))) rfl ?_
 refine c_seq ?_
 refine c_region ?_
 refine st (v:=.int .i64 1) (x_assign .const) ?_
 refine c_nil ?_
 refine n_then ?_
 refine c_ret ?_
 refine r_block ?_
 refine r_then ?_
 refine leave_ret (res_one (v:=.int .i64 1) rfl (.mk rfl rfl)) ?_
 have hans170:(t.putE p.From p.To) = 1:=putE_no (.inr hc30)
 rw [hans170]
 exact ⟨(NetS.mk t.n t.hr t.ps t.bi t.lost),vb_t,cb_t,vt_t,ct_t,(.slice none 0 0),rfl,⟨hn1_t,hn16_t,ok_t.hl,ok_t.hb,ok_t.okb,ok_t.hkb,ok_t.okt,ok_t.hkt,(show t.bi.length = t.ps.length by first | exact hlen_t | (rw [List.length_eraseIdx,List.length_eraseIdx,hlen_t]) | (simp; omega)),(show t.ps.length ≤ 4096 by first | exact hmax_t | exact Nat.le_trans (List.length_eraseIdx_le ..) hmax_t | (simp; omega)),(show 0 ≤ t.lost by first | exact hl0_t | omega)⟩,putS_no (.inr hc30),((((hs29.pick 3 rfl rfl).drop.pick 2 rfl rfl).pick 2 rfl rfl).pick 2 rfl rfl)⟩
 refine g_no (yl (dj:=17) (b:=true) rfl rfl (congrArg Value.bool (by rw [hc21]; rfl))) rfl ?_
 refine g_no (yl (dj:=17) (b:=true) rfl rfl (congrArg Value.bool (by rw [hc21]; rfl))) rfl ?_
 refine g_no (yl (dj:=17) (b:=true) rfl rfl (congrArg Value.bool (by rw [hc21]; rfl))) rfl ?_
 refine g_no (yl (dj:=17) (b:=true) rfl rfl (congrArg Value.bool (by rw [hc21]; rfl))) rfl ?_
 refine g_no (yl (dj:=17) (b:=true) rfl rfl (congrArg Value.bool (by rw [hc21]; rfl))) rfl ?_
 refine st (v:=.bool true) (x_pick_t (.tmp rfl (congrArg Value.bool (by rw [hc21]; rfl))) .const) ?_
 refine st (v:=.bool true) (x_assign (.tmp rfl rfl)) ?_
 refine c_nil ?_
 refine n_then ?_
 refine c_cond_t (t:=true) (.tmp rfl rfl) rfl ?_
 refine c_seq ?_
 refine c_region ?_
 refine st (v:=.int .i64 1) (x_assign .const) ?_
 refine c_nil ?_
 refine n_then ?_
 refine c_ret ?_
 refine r_block ?_
 refine r_then ?_
 refine leave_ret (res_one (v:=.int .i64 1) rfl (.mk rfl rfl)) ?_
 have hans171:(t.putE p.From p.To) = 1:=putE_no (.inl hc21)
 rw [hans171]
 exact ⟨(NetS.mk t.n t.hr t.ps t.bi t.lost),vb_t,cb_t,vt_t,ct_t,(.slice none 0 0),rfl,⟨hn1_t,hn16_t,ok_t.hl,ok_t.hb,ok_t.okb,ok_t.hkb,ok_t.okt,ok_t.hkt,(show t.bi.length = t.ps.length by first | exact hlen_t | (rw [List.length_eraseIdx,List.length_eraseIdx,hlen_t]) | (simp; omega)),(show t.ps.length ≤ 4096 by first | exact hmax_t | exact Nat.le_trans (List.length_eraseIdx_le ..) hmax_t | (simp; omega)),(show 0 ≤ t.lost by first | exact hl0_t | omega)⟩,putS_no (.inl hc21),((((hs20.pick 3 rfl rfl).drop.pick 2 rfl rfl).pick 2 rfl rfl).pick 2 rfl rfl)⟩
set_option maxHeartbeats 8000000 in
theorem Put_spec {H:Hp} {w:World} {L:List Res} {g_t:Nat} {t:NetS} {vb_t:Value} {cb_t:List Value} {vt_t:Value} {ct_t:List Value} (hs:St H w (netG 64 37 3 5 g_t t vb_t cb_t vt_t ct_t (L))) (ok_t:NetOk H t vb_t cb_t vt_t ct_t) (p:GPacket) {k_p:List Value} (h_p:kPacket.rep H p k_p) (hlost:t.lost < 4611686018427387904):Calls Tryd.prog 17 #[.pointer (some ⟨g_t,0,none⟩),.agg k_p.toArray] w (fun e w' => ∃ (t':NetS) (vb_t':Value) (cb_t':List Value) (vt_t':Value) (ct_t':List Value) (v_:Value),e = .returned (.int .i64 (t.putE p.From p.To))∧NetOk H t' vb_t' cb_t' vt_t' ct_t'∧t' = NetS.putS t p.From p.To p.Bytes 0 v_∧St H w' (netG 64 37 3 5 g_t t' vb_t' cb_t' vt_t' ct_t' (L))):=by
 have hn1_t:=ok_t.n1
 have hn16_t:=ok_t.n16
 have hlen_t:=ok_t.len
 have hmax_t:=ok_t.max
 have hl0_t:=ok_t.l0
 have hs:St H w (obj g_t 64 (netCells t.n vb_t vt_t t.hr t.lost)::row 37 3 vb_t t.ps.length cb_t::row 3 1 vt_t t.bi.length ct_t::(t.ps.map (pkRes 5) ++ L)):=hs
 obtain ⟨A5,n6,c7,rfl,⟨b1,b2⟩,⟨b3,b4⟩,hy8⟩:=h_p
 have:=hy8.len; have:=hy8.bnd; have:=hy8.le
 refine enter (args:=[.pointer (some ⟨g_t,0,none⟩),.agg #[.int .i64 p.From,.int .i64 p.To,.slice A5 n6 c7]]) (N:=8) Tryd.func17 rfl rfl rfl ?_
 refine c_seq ?_
 refine c_region ?_
 refine st_m (m_box (cs:=[.int .i64 p.From,.int .i64 p.To,.slice A5 n6 c7]) hs (v:=.agg #[.int .i64 p.From,.int .i64 p.To,.slice A5 n6 c7]) (.tmp rfl rfl) rfl) ?_
 rintro _ w10 ⟨g9,rfl,hs12⟩
 refine st (v:=.int .i64 0) (x_assign .const) ?_
 refine c_nil ?_
 refine n_then ?_
 refine c_seq ?_
 refine c_region ?_
 refine st (v:=.pointer (some ⟨g_t,0,none⟩)) (x_move (.tmp rfl rfl)) ?_
 refine st (v:=.agg #[.int .i64 p.From,.int .i64 p.To,.slice A5 n6 c7]) (ld37 (cs:=[.int .i64 p.From,.int .i64 p.To,.slice A5 n6 c7]) (.tmp rfl rfl) (hs12.at_ 0 rfl (0) rfl) rfl) ?_
 have hs13:=hs12.p3
 have hs14:=hs13.p3
 have hs15:=hs14.p3
 have okn16:NetOk H t vb_t cb_t vt_t ct_t:=⟨hn1_t,hn16_t,ok_t.hl,ok_t.hb,ok_t.okb,ok_t.hkb,ok_t.okt,ok_t.hkt,(show t.bi.length = t.ps.length by first | exact hlen_t | (rw [List.length_eraseIdx,List.length_eraseIdx,hlen_t]) | (simp; omega)),(show t.ps.length ≤ 4096 by first | exact hmax_t | exact Nat.le_trans (List.length_eraseIdx_le ..) hmax_t | (simp; omega)),(show 0 ≤ t.lost by first | exact hl0_t | omega)⟩
 have hs17:St H _ (netG 64 37 3 5 g_t t vb_t cb_t vt_t ct_t (obj g9 37 [.int .i64 p.From,.int .i64 p.To,.slice A5 n6 c7]::L)):=St.netFold [obj g9 37 [.int .i64 p.From,.int .i64 p.To,.slice A5 n6 c7]] hs15
 have hr18:kPacket.rep H p [.int .i64 p.From,.int .i64 p.To,.slice A5 n6 c7]:=⟨A5,n6,c7,rfl,⟨b1,b2⟩,⟨b3,b4⟩,hy8⟩
 refine st_c cb35 .func (evs3 (.tmp rfl rfl) (.tmp rfl rfl) .const) (put_spec hs17 okn16 p hr18 0 ⟨by omega,by omega⟩ hlost) ?_
 rintro e w19 ⟨nt26,vb21,cb22,vt23,ct24,v_28,rfl,ok25,hnt27,hs20⟩
 refine ⟨_,rfl,?_⟩
 have hn1_t:=ok25.n1
 have hn16_t:=ok25.n16
 have hlen_t:=ok25.len
 have hmax_t:=ok25.max
 have hl0_t:=ok25.l0
 have hs29:St H _ (obj g_t 64 (netCells nt26.n vb21 vt23 nt26.hr nt26.lost)::row 37 3 vb21 nt26.ps.length cb22::row 3 1 vt23 nt26.bi.length ct24::obj g9 37 [.int .i64 p.From,.int .i64 p.To,.slice A5 n6 c7]::(nt26.ps.map (pkRes 5) ++ L)):=St.netUnfold [obj g9 37 [.int .i64 p.From,.int .i64 p.To,.slice A5 n6 c7]] hs20
 refine st (v:=.int .i64 (t.putE p.From p.To)) (x_assign (.tmp rfl rfl)) ?_
 refine c_nil ?_
 refine n_then ?_
 refine c_ret ?_
 refine leave_ret (res_one (v:=.int .i64 (t.putE p.From p.To)) rfl (.mk rfl rfl)) ?_
 exact ⟨(NetS.mk nt26.n nt26.hr nt26.ps nt26.bi nt26.lost),vb21,cb22,vt23,ct24,v_28,rfl,⟨hn1_t,hn16_t,ok25.hl,ok25.hb,ok25.okb,ok25.hkb,ok25.okt,ok25.hkt,(show nt26.bi.length = nt26.ps.length by first | exact hlen_t | (rw [List.length_eraseIdx,List.length_eraseIdx,hlen_t]) | (simp; omega)),(show nt26.ps.length ≤ 4096 by first | exact hmax_t | exact Nat.le_trans (List.length_eraseIdx_le ..) hmax_t | (simp; omega)),(show 0 ≤ nt26.lost by first | exact hl0_t | omega)⟩,hnt27,((((hs29.pick 3 rfl rfl).drop.pick 2 rfl rfl).pick 2 rfl rfl).pick 2 rfl rfl)⟩
set_option maxHeartbeats 8000000 in
theorem look_spec {H:Hp} {w:World} {L:List Res} {g_t:Nat} {t:NetS} {vb_t:Value} {cb_t:List Value} {vt_t:Value} {ct_t:List Value} (hs:St H w (netG 64 37 3 5 g_t t vb_t cb_t vt_t ct_t (L))) (ok_t:NetOk H t vb_t cb_t vt_t ct_t) (i:Int) (b_i:IB i):Calls Tryd.prog 36 #[.pointer (some ⟨g_t,0,none⟩),.int .i64 i] w (fun e w' => e = .returned (.int .i64 (t.lookE i))∧St H w' (netG 64 37 3 5 g_t t vb_t cb_t vt_t ct_t (L))):=by
 have hn1_t:=ok_t.n1
 have hn16_t:=ok_t.n16
 have hlen_t:=ok_t.len
 have hmax_t:=ok_t.max
 have hl0_t:=ok_t.l0
 have hs:St H w (obj g_t 64 (netCells t.n vb_t vt_t t.hr t.lost)::row 37 3 vb_t t.ps.length cb_t::row 3 1 vt_t t.bi.length ct_t::(t.ps.map (pkRes 5) ++ L)):=hs
 obtain ⟨b_i1,b_i2⟩:=b_i
 refine enter (args:=[.pointer (some ⟨g_t,0,none⟩),.int .i64 i]) (N:=20) Tryd.func36 rfl rfl rfl ?_
 refine c_seq ?_
 refine c_region ?_
 refine st (v:=.int .i64 0) (x_assign .const) ?_
 refine c_nil ?_
 refine n_then ?_
 refine c_seq ?_
 refine c_block ?_
 refine c_seq ?_
 refine c_region ?_
 refine st (v:=.pointer (some ⟨g_t,0,none⟩)) (x_move (.tmp rfl rfl)) ?_
 refine st (v:=.bool false) (x_eqlP Tryd.underlying24 (.tmp rfl rfl) .const rfl) ?_
 refine st (v:=.bool false) (x_assign (.tmp rfl rfl)) ?_
 refine c_nil ?_
 refine n_then ?_
 refine c_cond_f (t:=false) (.tmp rfl rfl) rfl ?_
 refine c_seq ?_
 refine c_region ?_
 refine st (v:=.int .i64 i) (x_move (.tmp rfl rfl)) ?_
 refine st (v:=.bool (decide ((i:Int) < 0))) (x_lss (k:=.i64) (a:=i) (b:=0) (.tmp rfl rfl) .const) ?_
 refine st (v:=.bool (decide ((i:Int) < 0))) (x_move (.tmp rfl rfl)) ?_
 rcases Bool.eq_false_or_eq_true (decide ((i:Int) < 0)) with hc1 | hc1
 have hp1:(i:Int) < 0:=of_decide_eq_true hc1
 refine g_no (yl (dj:=11) (b:=true) rfl rfl (congrArg Value.bool hc1)) rfl ?_
 refine g_no (yl (dj:=11) (b:=true) rfl rfl (congrArg Value.bool hc1)) rfl ?_
 refine g_no (yl (dj:=11) (b:=true) rfl rfl (congrArg Value.bool hc1)) rfl ?_
 refine g_no (yl (dj:=11) (b:=true) rfl rfl (congrArg Value.bool hc1)) rfl ?_
 refine g_no (yl (dj:=11) (b:=true) rfl rfl (congrArg Value.bool hc1)) rfl ?_
 refine g_no (yl (dj:=11) (b:=true) rfl rfl (congrArg Value.bool hc1)) rfl ?_
 refine g_no (yl (dj:=11) (b:=true) rfl rfl (congrArg Value.bool hc1)) rfl ?_
 refine st (v:=.bool true) (x_pick_t (.tmp rfl (congrArg Value.bool hc1)) .const) ?_
 refine st (v:=.bool true) (x_assign (.tmp rfl rfl)) ?_
 refine c_nil ?_
 refine n_then ?_
 refine c_cond_t (t:=true) (.tmp rfl rfl) rfl ?_
 refine c_seq ?_
 refine c_region ?_
 refine st (v:=.int .i64 1) (x_assign .const) ?_
 refine c_nil ?_
 refine n_then ?_
 refine c_ret ?_
 refine r_block ?_
 refine r_then ?_
 refine leave_ret (res_one (v:=.int .i64 1) rfl (.mk rfl rfl)) ?_
 have hans2:(t.lookE i) = 1:=lookE_1 (by omega)
 rw [hans2]
 exact ⟨rfl,(((hs.pick 2 rfl rfl).pick 2 rfl rfl).pick 2 rfl rfl)⟩
 have hp1:¬ ((i:Int) < 0):=of_decide_eq_false hc1
 refine g_yes (yl (dj:=11) (b:=false) rfl rfl (congrArg Value.bool hc1)) ?_
 refine st (v:=.int .i64 i) (x_move (.tmp rfl rfl)) ?_
 refine g_yes (yl (dj:=11) (b:=false) rfl rfl (congrArg Value.bool hc1)) ?_
 refine st (v:=.pointer (some ⟨g_t,0,none⟩)) (x_move (.tmp rfl rfl)) ?_
 refine g_yes (yl (dj:=11) (b:=false) rfl rfl (congrArg Value.bool hc1)) ?_
 refine st (v:=.pointer (some ⟨g_t,0,none⟩)) (x_nilCheck (.tmp rfl rfl)) ?_
 refine g_yes (yl (dj:=11) (b:=false) rfl rfl (congrArg Value.bool hc1)) ?_
 refine st (v:=.pointer (some ⟨g_t,0 + 1,none⟩)) (fa64_1 (.tmp rfl rfl)) ?_
 refine g_yes (yl (dj:=11) (b:=false) rfl rfl (congrArg Value.bool hc1)) ?_
 refine st (v:=vb_t) (ld51 (.tmp rfl rfl) (hs.cell 0 rfl (0 + 1) rfl)) ?_
 refine g_yes (yl (dj:=11) (b:=false) rfl rfl (congrArg Value.bool hc1)) ?_
 obtain ⟨A3,c4,hv5,hc6⟩:=ok_t.okb.slice
 refine st (v:=.int .i64 ((t.ps.length:Nat):Int)) (x_len (n:=t.ps.length) Tryd.underlying51 (.tmp rfl hv5)) ?_
 refine g_yes (yl (dj:=11) (b:=false) rfl rfl (congrArg Value.bool hc1)) ?_
 refine st (v:=.bool (decide ((((t.ps.length:Nat):Int):Int) ≤ i))) (x_geq (k:=.i64) (a:=i) (b:=((t.ps.length:Nat):Int)) (.tmp rfl rfl) (.tmp rfl rfl)) ?_
 refine st (v:=.bool (decide ((((t.ps.length:Nat):Int):Int) ≤ i))) (x_pick_f (.tmp rfl (congrArg Value.bool hc1)) (.tmp rfl rfl)) ?_
 refine st (v:=.bool (decide ((((t.ps.length:Nat):Int):Int) ≤ i))) (x_assign (.tmp rfl rfl)) ?_
 refine c_nil ?_
 refine n_then ?_
 rcases Bool.eq_false_or_eq_true (decide ((((t.ps.length:Nat):Int):Int) ≤ i)) with hc7 | hc7
 have hp7:(((t.ps.length:Nat):Int):Int) ≤ i:=of_decide_eq_true hc7
 refine c_cond_t (t:=true) (.tmp rfl (congrArg Value.bool hc7)) rfl ?_
 refine c_seq ?_
 refine c_region ?_
 refine st (v:=.int .i64 1) (x_assign .const) ?_
 refine c_nil ?_
 refine n_then ?_
 refine c_ret ?_
 refine r_block ?_
 refine r_then ?_
 refine leave_ret (res_one (v:=.int .i64 1) rfl (.mk rfl rfl)) ?_
 have hans8:(t.lookE i) = 1:=lookE_1 (by omega)
 rw [hans8]
 exact ⟨rfl,(((hs.pick 2 rfl rfl).pick 2 rfl rfl).pick 2 rfl rfl)⟩
 have hp7:¬ ((((t.ps.length:Nat):Int):Int) ≤ i):=of_decide_eq_false hc7
 refine c_cond_f (t:=false) (.tmp rfl (congrArg Value.bool hc7)) rfl ?_
 refine c_skip ?_
 refine n_block ?_
 refine n_then ?_
 refine c_seq ?_
 refine c_region ?_
 refine st (v:=.int .i64 0) (x_assign .const) ?_
 refine c_nil ?_
 refine n_then ?_
 refine c_ret ?_
 refine leave_ret (res_one (v:=.int .i64 0) rfl (.mk rfl rfl)) ?_
 have hans9:(t.lookE i) = 0:=lookE_0 (by omega)
 rw [hans9]
 exact ⟨rfl,(((hs.pick 2 rfl rfl).pick 2 rfl rfl).pick 2 rfl rfl)⟩
set_option maxHeartbeats 8000000 in
theorem Peek_spec {H:Hp} {w:World} {L:List Res} {g_t:Nat} {t:NetS} {vb_t:Value} {cb_t:List Value} {vt_t:Value} {ct_t:List Value} (hs:St H w (netG 64 37 3 5 g_t t vb_t cb_t vt_t ct_t (L))) (ok_t:NetOk H t vb_t cb_t vt_t ct_t) (i:Int) (b_i:IB i):Calls Tryd.prog 21 #[.pointer (some ⟨g_t,0,none⟩),.int .i64 i] w (fun e w' => ∃ (v0:Value),e = .returned (.tuple #[.agg #[.int .i64 (t.peekP i).From,.int .i64 (t.peekP i).To,v0],.int .i64 (t.lookE i)])∧IB (t.peekP i).From∧IB (t.peekP i).To∧Small (t.peekP i).Bytes∧RowOk 1 v0 (t.peekP i).Bytes.length ((t.peekP i).Bytes.map encB)∧(t.peekP i).Bytes.length ≤ 140737488351232∧St H w' (row 5 1 v0 (t.peekP i).Bytes.length ((t.peekP i).Bytes.map encB)::netG 64 37 3 5 g_t t vb_t cb_t vt_t ct_t (L))):=by
 have hn1_t:=ok_t.n1
 have hn16_t:=ok_t.n16
 have hlen_t:=ok_t.len
 have hmax_t:=ok_t.max
 have hl0_t:=ok_t.l0
 have hs:St H w (obj g_t 64 (netCells t.n vb_t vt_t t.hr t.lost)::row 37 3 vb_t t.ps.length cb_t::row 3 1 vt_t t.bi.length ct_t::(t.ps.map (pkRes 5) ++ L)):=hs
 obtain ⟨b_i1,b_i2⟩:=b_i
 refine enter (args:=[.pointer (some ⟨g_t,0,none⟩),.int .i64 i]) (N:=27) Tryd.func21 rfl rfl rfl ?_
 refine c_seq ?_
 refine c_region ?_
 refine st_m (al37 (cs:=[.int .i64 0,.int .i64 0,.slice none 0 0]) hs rfl) ?_
 rintro _ w2 ⟨g1,rfl,hs4⟩
 refine st (v:=.int .i64 0) (x_assign .const) ?_
 refine c_nil ?_
 refine n_then ?_
 refine c_seq ?_
 refine c_seq ?_
 refine c_region ?_
 refine st (v:=.pointer (some ⟨g_t,0,none⟩)) (x_move (.tmp rfl rfl)) ?_
 refine st (v:=.int .i64 i) (x_move (.tmp rfl rfl)) ?_
 have hs5:=hs4.p3
 have hs6:=hs5.p3
 have hs7:=hs6.p3
 have okn8:NetOk H t vb_t cb_t vt_t ct_t:=⟨hn1_t,hn16_t,ok_t.hl,ok_t.hb,ok_t.okb,ok_t.hkb,ok_t.okt,ok_t.hkt,(show t.bi.length = t.ps.length by first | exact hlen_t | (rw [List.length_eraseIdx,List.length_eraseIdx,hlen_t]) | (simp; omega)),(show t.ps.length ≤ 4096 by first | exact hmax_t | exact Nat.le_trans (List.length_eraseIdx_le ..) hmax_t | (simp; omega)),(show 0 ≤ t.lost by first | exact hl0_t | omega)⟩
 have hs9:St H _ (netG 64 37 3 5 g_t t vb_t cb_t vt_t ct_t (obj g1 37 [.int .i64 0,.int .i64 0,.slice none 0 0]::L)):=St.netFold [obj g1 37 [.int .i64 0,.int .i64 0,.slice none 0 0]] hs7
 refine st_c cb36 .func (evs2 (.tmp rfl rfl) (.tmp rfl rfl)) (look_spec hs9 okn8 i ⟨b_i1,b_i2⟩ ) ?_
 rintro e w10 ⟨rfl,hs11⟩
 refine ⟨_,rfl,?_⟩
 have hs12:St H _ (obj g_t 64 (netCells t.n vb_t vt_t t.hr t.lost)::row 37 3 vb_t t.ps.length cb_t::row 3 1 vt_t t.bi.length ct_t::obj g1 37 [.int .i64 0,.int .i64 0,.slice none 0 0]::(t.ps.map (pkRes 5) ++ L)):=St.netUnfold [obj g1 37 [.int .i64 0,.int .i64 0,.slice none 0 0]] hs11
 refine st (v:=.int .i64 (t.lookE i)) (x_assign (.tmp rfl rfl)) ?_
 refine c_nil ?_
 refine n_then ?_
 refine c_seq ?_
 refine c_region ?_
 refine st (v:=.int .i64 (t.lookE i)) (x_move (.tmp rfl rfl)) ?_
 refine st (v:=.bool (decide (((t.lookE i):Int) ≠ 0))) (x_neq (k:=.i64) (a:=(t.lookE i)) (b:=0) (.tmp rfl rfl) .const) ?_
 refine c_nil ?_
 refine n_then ?_
 rcases Bool.eq_false_or_eq_true (decide (((t.lookE i):Int) ≠ 0)) with hc13 | hc13
 have hp13:((t.lookE i):Int) ≠ 0:=of_decide_eq_true hc13
 refine c_cond_t (t:=true) (.tmp rfl (congrArg Value.bool hc13)) rfl ?_
 refine c_seq ?_
 refine c_region ?_
 refine st (v:=.agg #[.int .i64 0,.int .i64 0,.slice none 0 0]) (bl37 (ps:=[]) Evp.nil rfl) ?_
 refine st (v:=.int .i64 (t.lookE i)) (x_move (.tmp rfl rfl)) ?_
 have hs14:=hs12.p3
 refine st_m0 (sto37 (cs':=[.int .i64 0,.int .i64 0,.slice none 0 0]) (i:=0) hs14 (v:=.agg #[.int .i64 0,.int .i64 0,.slice none 0 0]) (.tmp rfl rfl) (.tmp rfl rfl) rfl (Nat.le_of_ble_eq_true rfl) (oneA rfl) rfl) ?_
 rintro w15 hs17
 refine st (v:=.int .i64 (t.lookE i)) (x_assign (.tmp rfl rfl)) ?_
 refine c_nil ?_
 refine n_then ?_
 refine c_ret ?_
 refine r_then ?_
 refine leave_ret (res_two (v:=.agg #[.int .i64 0,.int .i64 0,.slice none 0 0]) (u:=.int .i64 (t.lookE i)) rfl (.mkCell rfl rfl (lv37 (cs:=[.int .i64 0,.int .i64 0,.slice none 0 0]) (hs17.at_ 0 rfl 0 rfl) rfl)) (.mk rfl rfl)) ?_
 have hno:¬ (0 ≤ i∧i < t.ps.length):=fun h => by have:=lookE_0 (s:=t) h; omega
 have hans18:(t.peekP i) = ⟨0,0,[]⟩:=peek_no hno
 rw [hans18]
 have hs19:St H _ (row 5 1 (.slice none 0 0) 0 (([]:List Nat).map encB)::obj g1 37 [.int .i64 0,.int .i64 0,.slice none 0 0]::obj g_t 64 (netCells t.n vb_t vt_t t.hr t.lost)::row 37 3 vb_t t.ps.length cb_t::row 3 1 vt_t t.bi.length ct_t::(t.ps.map (pkRes 5) ++ L)):=hs17.rowNil 5 1
 exact ⟨(.slice none 0 0),rfl,(show IB 0 from ⟨by omega,by omega⟩),(show IB 0 from ⟨by omega,by omega⟩),Small.nil,(RowOk.nil 1),(Nat.zero_le _),(((((hs19.pick 1 rfl rfl).drop.pick 3 rfl rfl).pick 3 rfl rfl).pick 3 rfl rfl).pick 3 rfl rfl)⟩
 have hp13:¬ (((t.lookE i):Int) ≠ 0):=of_decide_eq_false hc13
 refine c_cond_f (t:=false) (.tmp rfl (congrArg Value.bool hc13)) rfl ?_
 refine c_skip ?_
 refine n_then ?_
 refine c_seq ?_
 refine c_region ?_
 refine st (v:=.pointer (some ⟨g_t,0,none⟩)) (x_move (.tmp rfl rfl)) ?_
 refine st (v:=.pointer (some ⟨g_t,0,none⟩)) (x_nilCheck (.tmp rfl rfl)) ?_
 refine st (v:=.pointer (some ⟨g_t,0 + 1,none⟩)) (fa64_1 (.tmp rfl rfl)) ?_
 have hin:0 ≤ i∧i < t.ps.length:=by by_cases h:0 ≤ i∧i < t.ps.length; exact h; have:=lookE_1 (s:=t) h; omega
 refine st (v:=vb_t) (ld51 (.tmp rfl rfl) (hs12.cell 0 rfl (0 + 1) rfl)) ?_
 refine st (v:=.int .i64 i) (x_move (.tmp rfl rfl)) ?_
 obtain ⟨g21,c22,hv23⟩:=ok_t.okb.pos (by omega)
 obtain ⟨e24,cs25,hx26,hr27,hsub28⟩:=Kn.rows_get (i:=i.toNat) ok_t.hkb (by omega)
 obtain ⟨rfl,⟨b29,b30⟩,⟨b31,b32⟩,ok33,sm34,lb35⟩:=hr27
 refine st (v:=.pointer (some ⟨g21,(i.toNat * 3),none⟩)) (ixo51 (.tmp rfl hv23) rfl (i:=i) (.tmp rfl rfl) (by omega) (by omega) (by omega)) ?_
 refine st (v:=.agg #[.int .i64 e24.From,.int .i64 e24.To,e24.v]) (ld37 (cs:=[.int .i64 e24.From,.int .i64 e24.To,e24.v]) (.tmp rfl rfl) ((hs12.rowAt 1 rfl hv23 (i.toNat * 3) hsub28).sub 0 rfl) rfl) ?_
 refine st_m (al37 (cs:=[.int .i64 0,.int .i64 0,.slice none 0 0]) hs12 rfl) ?_
 rintro _ w37 ⟨g36,rfl,hs39⟩
 refine st_m0 (sto37 (cs':=[.int .i64 e24.From,.int .i64 e24.To,e24.v]) (i:=0) hs39 (v:=.agg #[.int .i64 e24.From,.int .i64 e24.To,e24.v]) (.tmp rfl rfl) (.tmp rfl rfl) rfl (Nat.le_of_ble_eq_true rfl) (oneA (allC rfl (allC rfl (allC (RowOk.oneC ok33) rfl)))) rfl) ?_
 rintro w40 hs42
 refine c_nil ?_
 refine n_then ?_
 refine c_seq ?_
 refine c_region ?_
 refine st (v:=.pointer (some ⟨g36,0 + 2,none⟩)) (fa37_2 (.tmp rfl rfl)) ?_
 refine st (v:=e24.v) (ld22 (.tmp rfl rfl) (hs42.cell 0 rfl (0 + 2) rfl)) ?_
 have hs43:St H _ (row 5 1 e24.v e24.bs.length (e24.bs.map encB)::obj g36 37 [.int .i64 e24.From,.int .i64 e24.To,e24.v]::obj g_t 64 (netCells t.n vb_t vt_t t.hr t.lost)::row 37 3 vb_t t.ps.length cb_t::row 3 1 vt_t t.bi.length ct_t::obj g1 37 [.int .i64 0,.int .i64 0,.slice none 0 0]::((t.ps.eraseIdx i.toNat).map (pkRes 5) ++ L)):=St.pkOut (rs:=[obj g36 37 [.int .i64 e24.From,.int .i64 e24.To,e24.v],obj g_t 64 (netCells t.n vb_t vt_t t.hr t.lost),row 37 3 vb_t t.ps.length cb_t,row 3 1 vt_t t.bi.length ct_t,obj g1 37 [.int .i64 0,.int .i64 0,.slice none 0 0]]) hs42 hx26
 refine st_c cb37 .func (evs1 (.tmp rfl rfl)) (clone_bs hs43 sm34 ok33 (by omega) ) ?_
 rintro e w44 ⟨v46,rfl,sm49,ok47,hs45⟩
 refine ⟨_,rfl,?_⟩
 have hs50:=hs45.p1
 have hs51:St H _ (row 5 1 v46 e24.bs.length (e24.bs.map encB)::obj g36 37 [.int .i64 e24.From,.int .i64 e24.To,e24.v]::obj g_t 64 (netCells t.n vb_t vt_t t.hr t.lost)::row 37 3 vb_t t.ps.length cb_t::row 3 1 vt_t t.bi.length ct_t::obj g1 37 [.int .i64 0,.int .i64 0,.slice none 0 0]::(t.ps.map (pkRes 5) ++ L)):=St.pkBack (rs:=[row 5 1 v46 e24.bs.length (e24.bs.map encB),obj g36 37 [.int .i64 e24.From,.int .i64 e24.To,e24.v],obj g_t 64 (netCells t.n vb_t vt_t t.hr t.lost),row 37 3 vb_t t.ps.length cb_t,row 3 1 vt_t t.bi.length ct_t,obj g1 37 [.int .i64 0,.int .i64 0,.slice none 0 0]]) hs50 hx26
 refine st (v:=.pointer (some ⟨g36,0 + 2,none⟩)) (fa37_2 (.tmp rfl rfl)) ?_
 obtain ⟨A52,c53,rfl,hc54⟩:=ok47.slice
 have hs55:=hs51.p1
 refine st_m0 (sto22 (cs':=[.int .i64 e24.From,.int .i64 e24.To,.slice A52 e24.bs.length c53]) (i:=0 + 2) hs55 (v:=.slice A52 e24.bs.length c53) (.tmp rfl rfl) (.tmp rfl rfl) rfl (Nat.le_of_ble_eq_true rfl) one1 rfl) ?_
 rintro w56 hs58
 refine c_nil ?_
 refine n_then ?_
 refine c_seq ?_
 refine c_region ?_
 refine st (v:=.agg #[.int .i64 e24.From,.int .i64 e24.To,.slice A52 e24.bs.length c53]) (ld37 (cs:=[.int .i64 e24.From,.int .i64 e24.To,.slice A52 e24.bs.length c53]) (.tmp rfl rfl) (hs58.at_ 0 rfl (0) rfl) rfl) ?_
 have hs59:=hs58.p5
 refine st_m0 (sto37 (cs':=[.int .i64 e24.From,.int .i64 e24.To,.slice A52 e24.bs.length c53]) (i:=0) hs59 (v:=.agg #[.int .i64 e24.From,.int .i64 e24.To,.slice A52 e24.bs.length c53]) (.tmp rfl rfl) (.tmp rfl rfl) rfl (Nat.le_of_ble_eq_true rfl) (oneA rfl) rfl) ?_
 rintro w60 hs62
 refine st (v:=.int .i64 0) (x_assign .const) ?_
 refine c_nil ?_
 refine n_then ?_
 refine c_ret ?_
 refine leave_ret (res_two (v:=.agg #[.int .i64 e24.From,.int .i64 e24.To,.slice A52 e24.bs.length c53]) (u:=.int .i64 0) rfl (.mkCell rfl rfl (lv37 (cs:=[.int .i64 e24.From,.int .i64 e24.To,.slice A52 e24.bs.length c53]) (hs62.at_ 0 rfl 0 rfl) rfl)) (.mk rfl rfl)) ?_
 have hpk:=peek_at (s:=t) hin.1 hx26
 rw [hpk]
 have hans63:(t.lookE i) = 0:=lookE_0 hin
 rw [hans63]
 exact ⟨(.slice A52 e24.bs.length c53),rfl,⟨b29,b30⟩,⟨b31,b32⟩,sm49,ok47,(by omega),((((hs62.drop.drop.pick 3 rfl rfl).pick 3 rfl rfl).pick 3 rfl rfl).pick 3 rfl rfl)⟩
set_option maxHeartbeats 8000000 in
theorem out_spec {H:Hp} {w:World} {L:List Res} {g_t:Nat} {t:NetS} {vb_t:Value} {cb_t:List Value} {vt_t:Value} {ct_t:List Value} (hs:St H w (netG 64 37 3 5 g_t t vb_t cb_t vt_t ct_t (L))) (ok_t:NetOk H t vb_t cb_t vt_t ct_t) (i:Int) (b_i:IB i) (hin:0 ≤ i∧i < t.ps.length):Calls Tryd.prog 38 #[.pointer (some ⟨g_t,0,none⟩),.int .i64 i] w (fun e w' => ∃ (t':NetS) (vb_t':Value) (cb_t':List Value) (vt_t':Value) (ct_t':List Value),e = .returned (.tuple #[])∧NetOk H t' vb_t' cb_t' vt_t' ct_t'∧t' = NetS.outS t i.toNat∧St H w' (netG 64 37 3 5 g_t t' vb_t' cb_t' vt_t' ct_t' (L))):=by
 have hn1_t:=ok_t.n1
 have hn16_t:=ok_t.n16
 have hlen_t:=ok_t.len
 have hmax_t:=ok_t.max
 have hl0_t:=ok_t.l0
 have hs:St H w (obj g_t 64 (netCells t.n vb_t vt_t t.hr t.lost)::row 37 3 vb_t t.ps.length cb_t::row 3 1 vt_t t.bi.length ct_t::(t.ps.map (pkRes 5) ++ L)):=hs
 obtain ⟨b_i1,b_i2⟩:=b_i
 refine enter (args:=[.pointer (some ⟨g_t,0,none⟩),.int .i64 i]) (N:=26) Tryd.func38 rfl rfl rfl ?_
 obtain ⟨m,hm⟩:∃ m:Nat,i = (m:Int):=⟨i.toNat,by omega⟩
 have hml:m < t.ps.length:=by omega
 have hml2:m < t.bi.length:=by omega
 obtain ⟨p,hp⟩:∃ p,t.ps[m]? = some p:=⟨_,List.getElem?_eq_getElem hml⟩
 refine t_region (L:=obj g_t 64 (netCells t.n vb_t vt_t t.hr t.lost)::row 37 3 vb_t t.ps.length cb_t::row 3 1 vt_t t.bi.length ct_t::(t.ps.map (pkRes 5) ++ L)) (L':=obj g_t 64 (netCells t.n vb_t vt_t t.hr t.lost)::row 3 1 vt_t t.bi.length ct_t::(t.ps.map (pkRes 5) ++ L)) (Z:=[17,20,23]) (F:=[0,1,2]) (pl:=(.q 0 (.q 1 (.q 2 (.q 3 (.q 4 (.q 5 (.q 6 (.q 7 (.q 8 (.q 10 (.q 11 (.q 12 (.q 13 (.q 14 (.q 15 (.q 16 (.e 9 (.e 17 (.q 18 (.q 19 (.e 20 (.q 21 (.q 22 (.e 23 .done))))))))))))))))))))))))) mixed hs (fun u hu => (hu.pick 1 rfl rfl).drop) (by kernel_rfl) ?_
 intro w1 hs2
 refine t_fr (k:=0) (v:=.pointer (some ⟨g_t,0,none⟩)) rfl (fun w _ => (x_move (.tmp rfl rfl))) ?_
 refine t_fr (k:=1) (v:=.pointer (some ⟨g_t,0,none⟩)) rfl (fun w _ => (x_move (.tmp rfl rfl))) ?_
 refine t_fr (k:=2) (v:=.pointer (some ⟨g_t,0,none⟩)) rfl (fun w _ => (x_move (.tmp rfl rfl))) ?_
 refine t_st (k:=3) (v:=.pointer (some ⟨g_t,0,none⟩)) rfl rfl (fun w hs => (x_nilCheck (.tmp rfl rfl))) ?_
 refine t_st (k:=4) (v:=.pointer (some ⟨g_t,0 + 1,none⟩)) rfl rfl (fun w hs => (fa64_1 (.tmp rfl rfl))) ?_
 refine t_st (k:=5) (v:=vb_t) rfl rfl (fun w hs => (ld51 (.tmp rfl rfl) (hs.cell 0 rfl (0 + 1) rfl))) ?_
 refine t_st (k:=6) (v:=.int .i64 ((m:Nat):Int)) rfl rfl (fun w hs => (x_move (.tmp rfl (congrArg (Value.int .i64) hm)))) ?_
 refine t_st (k:=7) (v:=.int .i64 ((m:Nat):Int)) rfl rfl (fun w hs => (x_move (.tmp rfl (congrArg (Value.int .i64) hm)))) ?_
 refine t_st (k:=8) (v:=.int .i64 (((m + 1):Nat):Int)) rfl rfl (fun w hs => (x_add (k:=.i64) (a:=((m:Nat):Int)) (b:=1) (.tmp rfl rfl) .const ((w64 (by omega) (by omega)).trans (by omega)))) ?_
 refine t_st (k:=10) (v:=.pointer (some ⟨g_t,0,none⟩)) rfl rfl (fun w hs => (x_move (.tmp rfl rfl))) ?_
 refine t_st (k:=11) (v:=.pointer (some ⟨g_t,0,none⟩)) rfl rfl (fun w hs => (x_nilCheck (.tmp rfl rfl))) ?_
 refine t_st (k:=12) (v:=.pointer (some ⟨g_t,0 + 2,none⟩)) rfl rfl (fun w hs => (fa64_2 (.tmp rfl rfl))) ?_
 refine t_st (k:=13) (v:=vt_t) rfl rfl (fun w hs => (ld52 (.tmp rfl rfl) (hs.cell 0 rfl (0 + 2) rfl))) ?_
 refine t_st (k:=14) (v:=.int .i64 ((m:Nat):Int)) rfl rfl (fun w hs => (x_move (.tmp rfl (congrArg (Value.int .i64) hm)))) ?_
 refine t_st (k:=15) (v:=.int .i64 ((m:Nat):Int)) rfl rfl (fun w hs => (x_move (.tmp rfl (congrArg (Value.int .i64) hm)))) ?_
 refine t_st (k:=16) (v:=.int .i64 (((m + 1):Nat):Int)) rfl rfl (fun w hs => (x_add (k:=.i64) (a:=((m:Nat):Int)) (b:=1) (.tmp rfl rfl) .const ((w64 (by omega) (by omega)).trans (by omega)))) ?_
 refine t_eff (k:=9) rfl ?_
 have hs3:=hs2.p1
 refine st_c cb49 .func (evs3 (.tmp rfl rfl) (.tmp rfl rfl) (.tmp rfl rfl)) (delete_pk hs3 ok_t.okb ok_t.hkb m  (by omega)) ?_
 rintro e w4 ⟨v6,cs9,rfl,ok7,hk10,hs5⟩
 refine ⟨_,rfl,?_⟩
 refine t_on (S':=fun u => St H u (row 37 3 v6 ((t.ps.eraseIdx m).length) cs9::obj g_t 64 (netCells t.n vb_t vt_t t.hr t.lost)::row 3 1 vt_t t.bi.length ct_t::(t.ps.map (pkRes 5) ++ L))) (fun u hu => hu.drop) hs5 ?_
 refine t_eff (k:=17) rfl ?_
 have hs11:=hs5.p2
 refine st_c cb50 .func (evs3 (.tmp rfl rfl) (.tmp rfl rfl) (.tmp rfl rfl)) (delete_int hs11 ok_t.okt ok_t.hkt m  (by omega)) ?_
 rintro e w12 ⟨v14,cs17,rfl,ok15,hk18,hs13⟩
 refine ⟨_,rfl,?_⟩
 refine t_new (S':=fun u => St H u (row 3 1 v14 ((t.bi.eraseIdx m).length) cs17::row 37 3 v6 ((t.ps.eraseIdx m).length) cs9::obj g_t 64 (netCells t.n vb_t vt_t t.hr t.lost)::(t.ps.map (pkRes 5) ++ L))) rfl hs13 ?_
 refine t_st (k:=18) (v:=.pointer (some ⟨g_t,0,none⟩)) rfl rfl (fun w hs => (x_nilCheck (.tmp rfl rfl))) ?_
 refine t_st (k:=19) (v:=.pointer (some ⟨g_t,0 + 1,none⟩)) rfl rfl (fun w hs => (fa64_1 (.tmp rfl rfl))) ?_
 refine t_eff (k:=20) rfl ?_
 obtain ⟨A19,c20,rfl,hc21⟩:=ok7.slice
 have hs22:=hs13.p2
 refine st_m0 (sto51 (cs':=(netCells t.n (.slice A19 ((t.ps.eraseIdx m).length) c20) vt_t t.hr t.lost)) (i:=0 + 1) hs22 (v:=.slice A19 ((t.ps.eraseIdx m).length) c20) (.tmp rfl rfl) (.tmp rfl rfl) rfl (by rw [net_len ok_t.hl]; omega) one1 (rfl)) ?_
 rintro w23 hs24
 refine t_new (S':=fun u => St H u (obj g_t 64 (netCells t.n (.slice A19 ((t.ps.eraseIdx m).length) c20) vt_t t.hr t.lost)::row 3 1 v14 ((t.bi.eraseIdx m).length) cs17::row 37 3 (.slice A19 ((t.ps.eraseIdx m).length) c20) ((t.ps.eraseIdx m).length) cs9::(t.ps.map (pkRes 5) ++ L))) rfl hs24 ?_
 refine t_st (k:=21) (v:=.pointer (some ⟨g_t,0,none⟩)) rfl rfl (fun w hs => (x_nilCheck (.tmp rfl rfl))) ?_
 refine t_st (k:=22) (v:=.pointer (some ⟨g_t,0 + 2,none⟩)) rfl rfl (fun w hs => (fa64_2 (.tmp rfl rfl))) ?_
 refine t_eff (k:=23) rfl ?_
 obtain ⟨A25,c26,rfl,hc27⟩:=ok15.slice
 refine st_m0 (sto52 (cs':=(netCells t.n (.slice A19 ((t.ps.eraseIdx m).length) c20) (.slice A25 ((t.bi.eraseIdx m).length) c26) t.hr t.lost)) (i:=0 + 2) hs24 (v:=.slice A25 ((t.bi.eraseIdx m).length) c26) (.tmp rfl rfl) (.tmp rfl rfl) rfl (by rw [net_len ok_t.hl]; omega) one1 (rfl)) ?_
 rintro w28 hs29
 refine t_new (S':=fun u => St H u (obj g_t 64 (netCells t.n (.slice A19 ((t.ps.eraseIdx m).length) c20) (.slice A25 ((t.bi.eraseIdx m).length) c26) t.hr t.lost)::row 3 1 (.slice A25 ((t.bi.eraseIdx m).length) c26) ((t.bi.eraseIdx m).length) cs17::row 37 3 (.slice A19 ((t.ps.eraseIdx m).length) c20) ((t.ps.eraseIdx m).length) cs9::(t.ps.map (pkRes 5) ++ L))) rfl hs29 ?_
 refine t_nil ?_
 refine leave_end (res_none rfl) ?_
 have hs30:=(((hs29.pick 1 rfl rfl).pick 2 rfl rfl).pick 2 rfl rfl)
 have hs31:St H _ (obj g_t 64 (netCells t.n (.slice A19 ((t.ps.eraseIdx m).length) c20) (.slice A25 ((t.bi.eraseIdx m).length) c26) t.hr t.lost)::row 37 3 (.slice A19 ((t.ps.eraseIdx m).length) c20) ((t.ps.eraseIdx m).length) cs9::row 3 1 (.slice A25 ((t.bi.eraseIdx m).length) c26) ((t.bi.eraseIdx m).length) cs17::((t.ps.eraseIdx m).map (pkRes 5) ++ L)):=(St.pkOut (rs:=[obj g_t 64 (netCells t.n (.slice A19 ((t.ps.eraseIdx m).length) c20) (.slice A25 ((t.bi.eraseIdx m).length) c26) t.hr t.lost),row 37 3 (.slice A19 ((t.ps.eraseIdx m).length) c20) ((t.ps.eraseIdx m).length) cs9,row 3 1 (.slice A25 ((t.bi.eraseIdx m).length) c26) ((t.bi.eraseIdx m).length) cs17]) hs30 hp).drop
 exact ⟨(NetS.mk t.n t.hr (t.ps.eraseIdx m) (t.bi.eraseIdx m) t.lost),(.slice A19 ((t.ps.eraseIdx m).length) c20),cs9,(.slice A25 ((t.bi.eraseIdx m).length) c26),cs17,rfl,⟨hn1_t,hn16_t,ok_t.hl,ok_t.hb,ok7,hk10,ok15,hk18,(show (t.bi.eraseIdx m).length = (t.ps.eraseIdx m).length by first | exact hlen_t | (rw [List.length_eraseIdx,List.length_eraseIdx,hlen_t]) | (simp; omega)),(show (t.ps.eraseIdx m).length ≤ 4096 by first | exact hmax_t | exact Nat.le_trans (List.length_eraseIdx_le ..) hmax_t | (simp; omega)),(show 0 ≤ t.lost by first | exact hl0_t | omega)⟩,(by rw [show i.toNat = m by omega]; rfl),(((hs31.pick 2 rfl rfl).pick 2 rfl rfl).pick 2 rfl rfl)⟩
set_option maxHeartbeats 8000000 in
theorem Drop_spec {H:Hp} {w:World} {L:List Res} {g_t:Nat} {t:NetS} {vb_t:Value} {cb_t:List Value} {vt_t:Value} {ct_t:List Value} (hs:St H w (netG 64 37 3 5 g_t t vb_t cb_t vt_t ct_t (L))) (ok_t:NetOk H t vb_t cb_t vt_t ct_t) (i:Int) (b_i:IB i) (hlost:t.lost < 4611686018427387904):Calls Tryd.prog 28 #[.pointer (some ⟨g_t,0,none⟩),.int .i64 i] w (fun e w' => ∃ (t':NetS) (vb_t':Value) (cb_t':List Value) (vt_t':Value) (ct_t':List Value),e = .returned (.int .i64 (t.lookE i))∧NetOk H t' vb_t' cb_t' vt_t' ct_t'∧t' = NetS.dropS t i∧St H w' (netG 64 37 3 5 g_t t' vb_t' cb_t' vt_t' ct_t' (L))):=by
 have hn1_t:=ok_t.n1
 have hn16_t:=ok_t.n16
 have hlen_t:=ok_t.len
 have hmax_t:=ok_t.max
 have hl0_t:=ok_t.l0
 have hs:St H w (obj g_t 64 (netCells t.n vb_t vt_t t.hr t.lost)::row 37 3 vb_t t.ps.length cb_t::row 3 1 vt_t t.bi.length ct_t::(t.ps.map (pkRes 5) ++ L)):=hs
 obtain ⟨b_i1,b_i2⟩:=b_i
 refine enter (args:=[.pointer (some ⟨g_t,0,none⟩),.int .i64 i]) (N:=22) Tryd.func28 rfl rfl rfl ?_
 refine c_seq ?_
 refine c_region ?_
 refine st (v:=.int .i64 0) (x_assign .const) ?_
 refine c_nil ?_
 refine n_then ?_
 refine c_seq ?_
 refine c_seq ?_
 refine c_region ?_
 refine st (v:=.pointer (some ⟨g_t,0,none⟩)) (x_move (.tmp rfl rfl)) ?_
 refine st (v:=.int .i64 i) (x_move (.tmp rfl rfl)) ?_
 have hs1:=hs.p2
 have hs2:=hs1.p2
 have hs3:=hs2.p2
 have okn4:NetOk H t vb_t cb_t vt_t ct_t:=⟨hn1_t,hn16_t,ok_t.hl,ok_t.hb,ok_t.okb,ok_t.hkb,ok_t.okt,ok_t.hkt,(show t.bi.length = t.ps.length by first | exact hlen_t | (rw [List.length_eraseIdx,List.length_eraseIdx,hlen_t]) | (simp; omega)),(show t.ps.length ≤ 4096 by first | exact hmax_t | exact Nat.le_trans (List.length_eraseIdx_le ..) hmax_t | (simp; omega)),(show 0 ≤ t.lost by first | exact hl0_t | omega)⟩
 have hs5:St H _ (netG 64 37 3 5 g_t t vb_t cb_t vt_t ct_t (L)):=St.netFold [] hs3
 refine st_c cb36 .func (evs2 (.tmp rfl rfl) (.tmp rfl rfl)) (look_spec hs5 okn4 i ⟨b_i1,b_i2⟩ ) ?_
 rintro e w6 ⟨rfl,hs7⟩
 refine ⟨_,rfl,?_⟩
 have hs8:St H _ (obj g_t 64 (netCells t.n vb_t vt_t t.hr t.lost)::row 37 3 vb_t t.ps.length cb_t::row 3 1 vt_t t.bi.length ct_t::(t.ps.map (pkRes 5) ++ L)):=St.netUnfold [] hs7
 refine st (v:=.int .i64 (t.lookE i)) (x_assign (.tmp rfl rfl)) ?_
 refine c_nil ?_
 refine n_then ?_
 refine c_seq ?_
 refine c_region ?_
 refine st (v:=.int .i64 (t.lookE i)) (x_move (.tmp rfl rfl)) ?_
 refine st (v:=.bool (decide (((t.lookE i):Int) ≠ 0))) (x_neq (k:=.i64) (a:=(t.lookE i)) (b:=0) (.tmp rfl rfl) .const) ?_
 refine c_nil ?_
 refine n_then ?_
 rcases Bool.eq_false_or_eq_true (decide (((t.lookE i):Int) ≠ 0)) with hc9 | hc9
 have hp9:((t.lookE i):Int) ≠ 0:=of_decide_eq_true hc9
 refine c_cond_t (t:=true) (.tmp rfl (congrArg Value.bool hc9)) rfl ?_
 refine c_seq ?_
 refine c_region ?_
 refine st (v:=.int .i64 (t.lookE i)) (x_move (.tmp rfl rfl)) ?_
 refine st (v:=.int .i64 (t.lookE i)) (x_assign (.tmp rfl rfl)) ?_
 refine c_nil ?_
 refine n_then ?_
 refine c_ret ?_
 refine r_then ?_
 refine leave_ret (res_one (v:=.int .i64 (t.lookE i)) rfl (.mk rfl rfl)) ?_
 exact ⟨(NetS.mk t.n t.hr t.ps t.bi t.lost),vb_t,cb_t,vt_t,ct_t,rfl,⟨hn1_t,hn16_t,ok_t.hl,ok_t.hb,ok_t.okb,ok_t.hkb,ok_t.okt,ok_t.hkt,(show t.bi.length = t.ps.length by first | exact hlen_t | (rw [List.length_eraseIdx,List.length_eraseIdx,hlen_t]) | (simp; omega)),(show t.ps.length ≤ 4096 by first | exact hmax_t | exact Nat.le_trans (List.length_eraseIdx_le ..) hmax_t | (simp; omega)),(show 0 ≤ t.lost by first | exact hl0_t | omega)⟩,(drop_no (look_out (by omega))),(((hs8.pick 2 rfl rfl).pick 2 rfl rfl).pick 2 rfl rfl)⟩
 have hp9:¬ (((t.lookE i):Int) ≠ 0):=of_decide_eq_false hc9
 refine c_cond_f (t:=false) (.tmp rfl (congrArg Value.bool hc9)) rfl ?_
 refine c_skip ?_
 refine n_then ?_
 refine c_seq ?_
 refine c_region ?_
 have hin:=look_in (s:=t) (i:=i) (by omega)
 refine st (v:=.pointer (some ⟨g_t,0,none⟩)) (x_move (.tmp rfl rfl)) ?_
 refine st (v:=.int .i64 i) (x_move (.tmp rfl rfl)) ?_
 have hs10:=hs8.p2
 have hs11:=hs10.p2
 have hs12:=hs11.p2
 have okn13:NetOk H t vb_t cb_t vt_t ct_t:=⟨hn1_t,hn16_t,ok_t.hl,ok_t.hb,ok_t.okb,ok_t.hkb,ok_t.okt,ok_t.hkt,(show t.bi.length = t.ps.length by first | exact hlen_t | (rw [List.length_eraseIdx,List.length_eraseIdx,hlen_t]) | (simp; omega)),(show t.ps.length ≤ 4096 by first | exact hmax_t | exact Nat.le_trans (List.length_eraseIdx_le ..) hmax_t | (simp; omega)),(show 0 ≤ t.lost by first | exact hl0_t | omega)⟩
 have hs14:St H _ (netG 64 37 3 5 g_t t vb_t cb_t vt_t ct_t (L)):=St.netFold [] hs12
 refine st_c cb38 .func (evs2 (.tmp rfl rfl) (.tmp rfl rfl)) (out_spec hs14 okn13 i ⟨b_i1,b_i2⟩ hin) ?_
 rintro e w15 ⟨nt22,vb17,cb18,vt19,ct20,rfl,ok21,hnt23,hs16⟩
 refine ⟨_,rfl,?_⟩
 have hn1_t:=ok21.n1
 have hn16_t:=ok21.n16
 have hlen_t:=ok21.len
 have hmax_t:=ok21.max
 have hl0_t:=ok21.l0
 have hs24:St H _ (obj g_t 64 (netCells nt22.n vb17 vt19 nt22.hr nt22.lost)::row 37 3 vb17 nt22.ps.length cb18::row 3 1 vt19 nt22.bi.length ct20::(nt22.ps.map (pkRes 5) ++ L)):=St.netUnfold [] hs16
 refine c_nil ?_
 refine n_then ?_
 refine c_seq ?_
 refine c_region ?_
 refine st (v:=.pointer (some ⟨g_t,0,none⟩)) (x_move (.tmp rfl rfl)) ?_
 refine st (v:=.pointer (some ⟨g_t,0,none⟩)) (x_nilCheck (.tmp rfl rfl)) ?_
 refine st (v:=.pointer (some ⟨g_t,0 + 19,none⟩)) (fa64_4 (.tmp rfl rfl)) ?_
 refine st (v:=.int .i64 nt22.lost) (ld3 (.tmp rfl rfl) (hs24.cell 0 rfl (0 + 19) (net_lost ok21.hl))) ?_
 have hlo:nt22.lost = t.lost:=(congrArg NetS.lost hnt23).trans rfl
 refine st (v:=.int .i64 (nt22.lost + 1)) (x_add (k:=.i64) (a:=nt22.lost) (b:=1) (.tmp rfl rfl) .const (w64 (by omega) (by omega))) ?_
 refine st (v:=.pointer (some ⟨g_t,0,none⟩)) (x_nilCheck (.tmp rfl rfl)) ?_
 refine st (v:=.pointer (some ⟨g_t,0 + 19,none⟩)) (fa64_4 (.tmp rfl rfl)) ?_
 refine st_m0 (sto3 (cs':=(netCells nt22.n vb17 vt19 nt22.hr (nt22.lost + 1))) (i:=0 + 19) hs24 (v:=.int .i64 (nt22.lost + 1)) (.tmp rfl rfl) (.tmp rfl rfl) rfl (by rw [net_len ok21.hl]; omega) one1 (net_setL ok21.hl _)) ?_
 rintro w25 hs26
 refine c_nil ?_
 refine n_then ?_
 refine c_seq ?_
 refine c_region ?_
 refine st (v:=.int .i64 0) (x_assign .const) ?_
 refine c_nil ?_
 refine n_then ?_
 refine c_ret ?_
 refine leave_ret (res_one (v:=.int .i64 0) rfl (.mk rfl rfl)) ?_
 have hans27:(t.lookE i) = 0:=lookE_0 hin
 rw [hans27]
 exact ⟨(NetS.mk nt22.n nt22.hr nt22.ps nt22.bi (nt22.lost + 1)),vb17,cb18,vt19,ct20,rfl,⟨hn1_t,hn16_t,ok21.hl,ok21.hb,ok21.okb,ok21.hkb,ok21.okt,ok21.hkt,(show nt22.bi.length = nt22.ps.length by first | exact hlen_t | (rw [List.length_eraseIdx,List.length_eraseIdx,hlen_t]) | (simp; omega)),(show nt22.ps.length ≤ 4096 by first | exact hmax_t | exact Nat.le_trans (List.length_eraseIdx_le ..) hmax_t | (simp; omega)),(show 0 ≤ (nt22.lost + 1) by first | exact hl0_t | omega)⟩,(by rw [← drop_yes hin,← hnt23]; rfl),(((hs26.pick 2 rfl rfl).pick 2 rfl rfl).pick 2 rfl rfl)⟩
set_option maxHeartbeats 8000000 in
theorem Take_spec {H:Hp} {w:World} {L:List Res} {g_t:Nat} {t:NetS} {vb_t:Value} {cb_t:List Value} {vt_t:Value} {ct_t:List Value} (hs:St H w (netG 64 37 3 5 g_t t vb_t cb_t vt_t ct_t (L))) (ok_t:NetOk H t vb_t cb_t vt_t ct_t) (i:Int) (b_i:IB i) (hlost:t.lost < 4611686018427387904):Calls Tryd.prog 22 #[.pointer (some ⟨g_t,0,none⟩),.int .i64 i] w (fun e w' => ∃ (v0:Value) (t':NetS) (vb_t':Value) (cb_t':List Value) (vt_t':Value) (ct_t':List Value),e = .returned (.tuple #[.agg #[.int .i64 (t.takeP i).From,.int .i64 (t.takeP i).To,v0],.int .i64 (t.takeE i)])∧IB (t.takeP i).From∧IB (t.takeP i).To∧Small (t.takeP i).Bytes∧RowOk 1 v0 (t.takeP i).Bytes.length ((t.takeP i).Bytes.map encB)∧(t.takeP i).Bytes.length ≤ 140737488351232∧NetOk H t' vb_t' cb_t' vt_t' ct_t'∧t' = NetS.takeS t i∧St H w' (row 5 1 v0 (t.takeP i).Bytes.length ((t.takeP i).Bytes.map encB)::netG 64 37 3 5 g_t t' vb_t' cb_t' vt_t' ct_t' (L))):=by
 have hn1_t:=ok_t.n1
 have hn16_t:=ok_t.n16
 have hlen_t:=ok_t.len
 have hmax_t:=ok_t.max
 have hl0_t:=ok_t.l0
 have hs:St H w (obj g_t 64 (netCells t.n vb_t vt_t t.hr t.lost)::row 37 3 vb_t t.ps.length cb_t::row 3 1 vt_t t.bi.length ct_t::(t.ps.map (pkRes 5) ++ L)):=hs
 obtain ⟨b_i1,b_i2⟩:=b_i
 refine enter (args:=[.pointer (some ⟨g_t,0,none⟩),.int .i64 i]) (N:=37) Tryd.func22 rfl rfl rfl ?_
 refine c_seq ?_
 refine c_region ?_
 refine st_m (al37 (cs:=[.int .i64 0,.int .i64 0,.slice none 0 0]) hs rfl) ?_
 rintro _ w2 ⟨g1,rfl,hs4⟩
 refine st (v:=.int .i64 0) (x_assign .const) ?_
 refine c_nil ?_
 refine n_then ?_
 refine c_seq ?_
 refine c_region ?_
 refine st (v:=.pointer (some ⟨g_t,0,none⟩)) (x_move (.tmp rfl rfl)) ?_
 refine st (v:=.int .i64 i) (x_move (.tmp rfl rfl)) ?_
 have hs5:=hs4.p3
 have hs6:=hs5.p3
 have hs7:=hs6.p3
 have okn8:NetOk H t vb_t cb_t vt_t ct_t:=⟨hn1_t,hn16_t,ok_t.hl,ok_t.hb,ok_t.okb,ok_t.hkb,ok_t.okt,ok_t.hkt,(show t.bi.length = t.ps.length by first | exact hlen_t | (rw [List.length_eraseIdx,List.length_eraseIdx,hlen_t]) | (simp; omega)),(show t.ps.length ≤ 4096 by first | exact hmax_t | exact Nat.le_trans (List.length_eraseIdx_le ..) hmax_t | (simp; omega)),(show 0 ≤ t.lost by first | exact hl0_t | omega)⟩
 have hs9:St H _ (netG 64 37 3 5 g_t t vb_t cb_t vt_t ct_t (obj g1 37 [.int .i64 0,.int .i64 0,.slice none 0 0]::L)):=St.netFold [obj g1 37 [.int .i64 0,.int .i64 0,.slice none 0 0]] hs7
 refine st_c cb21 .func (evs2 (.tmp rfl rfl) (.tmp rfl rfl)) (Peek_spec hs9 okn8 i ⟨b_i1,b_i2⟩ ) ?_
 rintro e w10 ⟨v12,rfl,⟨b17,b18⟩,⟨b19,b20⟩,sm13,ok14,lb15,hs11⟩
 refine ⟨_,rfl,?_⟩
 have hs22:=St.netUp [row 5 1 v12 ((t.peekP i).Bytes.length) (((t.peekP i).Bytes).map encB)] hs11
 have hs21:St H _ (obj g_t 64 (netCells t.n vb_t vt_t t.hr t.lost)::row 37 3 vb_t t.ps.length cb_t::row 3 1 vt_t t.bi.length ct_t::row 5 1 v12 ((t.peekP i).Bytes.length) (((t.peekP i).Bytes).map encB)::obj g1 37 [.int .i64 0,.int .i64 0,.slice none 0 0]::(t.ps.map (pkRes 5) ++ L)):=St.netUnfold [row 5 1 v12 ((t.peekP i).Bytes.length) (((t.peekP i).Bytes).map encB),obj g1 37 [.int .i64 0,.int .i64 0,.slice none 0 0]] hs22
 refine st (v:=.tuple #[.agg #[.int .i64 ((t.peekP i).From),.int .i64 ((t.peekP i).To),v12],.int .i64 (t.lookE i)]) (x_move (.tmp rfl rfl)) ?_
 refine st (v:=.agg #[.int .i64 ((t.peekP i).From),.int .i64 ((t.peekP i).To),v12]) (x_extract (.tmp rfl rfl) (i:=0) rfl) ?_
 refine st (v:=.int .i64 (t.lookE i)) (x_extract (.tmp rfl rfl) (i:=1) rfl) ?_
 refine st_m (al37 (cs:=[.int .i64 0,.int .i64 0,.slice none 0 0]) hs21 rfl) ?_
 rintro _ w24 ⟨g23,rfl,hs26⟩
 refine st_m0 (sto37 (cs':=[.int .i64 ((t.peekP i).From),.int .i64 ((t.peekP i).To),v12]) (i:=0) hs26 (v:=.agg #[.int .i64 ((t.peekP i).From),.int .i64 ((t.peekP i).To),v12]) (.tmp rfl rfl) (.tmp rfl rfl) rfl (Nat.le_of_ble_eq_true rfl) (oneA (allC rfl (allC rfl (allC (RowOk.oneC ok14) rfl)))) rfl) ?_
 rintro w27 hs29
 refine st (v:=.int .i64 (t.lookE i)) (x_assign (.tmp rfl rfl)) ?_
 refine c_nil ?_
 refine n_then ?_
 refine c_seq ?_
 refine c_seq ?_
 refine c_region ?_
 refine st (v:=.int .i64 (t.lookE i)) (x_move (.tmp rfl rfl)) ?_
 refine st (v:=.bool (decide (((t.lookE i):Int) ≠ 0))) (x_neq (k:=.i64) (a:=(t.lookE i)) (b:=0) (.tmp rfl rfl) .const) ?_
 refine c_nil ?_
 refine n_then ?_
 rcases Bool.eq_false_or_eq_true (decide (((t.lookE i):Int) ≠ 0)) with hc30 | hc30
 have hp30:((t.lookE i):Int) ≠ 0:=of_decide_eq_true hc30
 refine c_cond_t (t:=true) (.tmp rfl (congrArg Value.bool hc30)) rfl ?_
 refine c_seq ?_
 refine c_region ?_
 refine st (v:=.agg #[.int .i64 0,.int .i64 0,.slice none 0 0]) (bl37 (ps:=[]) Evp.nil rfl) ?_
 refine st (v:=.int .i64 (t.lookE i)) (x_move (.tmp rfl rfl)) ?_
 have hs31:=hs29.p5
 refine st_m0 (sto37 (cs':=[.int .i64 0,.int .i64 0,.slice none 0 0]) (i:=0) hs31 (v:=.agg #[.int .i64 0,.int .i64 0,.slice none 0 0]) (.tmp rfl rfl) (.tmp rfl rfl) rfl (Nat.le_of_ble_eq_true rfl) (oneA rfl) rfl) ?_
 rintro w32 hs34
 refine st (v:=.int .i64 (t.lookE i)) (x_assign (.tmp rfl rfl)) ?_
 refine c_nil ?_
 refine n_then ?_
 refine c_ret ?_
 refine r_then ?_
 refine leave_ret (res_two (v:=.agg #[.int .i64 0,.int .i64 0,.slice none 0 0]) (u:=.int .i64 (t.lookE i)) rfl (.mkCell rfl rfl (lv37 (cs:=[.int .i64 0,.int .i64 0,.slice none 0 0]) (hs34.at_ 0 rfl 0 rfl) rfl)) (.mk rfl rfl)) ?_
 have htk:=take_no (s:=t) (look_out (i:=i) (by omega))
 have hl1:t.lookE i = 1:=lookE_1 (look_out (by omega))
 rw [show t.takeE i = t.lookE i from htk.1.trans hl1.symm,htk.2.1]
 have hs35:St H _ (row 5 1 (.slice none 0 0) 0 (([]:List Nat).map encB)::obj g1 37 [.int .i64 0,.int .i64 0,.slice none 0 0]::obj g23 37 [.int .i64 ((t.peekP i).From),.int .i64 ((t.peekP i).To),v12]::obj g_t 64 (netCells t.n vb_t vt_t t.hr t.lost)::row 37 3 vb_t t.ps.length cb_t::row 3 1 vt_t t.bi.length ct_t::row 5 1 v12 ((t.peekP i).Bytes.length) (((t.peekP i).Bytes).map encB)::(t.ps.map (pkRes 5) ++ L)):=hs34.rowNil 5 1
 exact ⟨(.slice none 0 0),(NetS.mk t.n t.hr t.ps t.bi t.lost),vb_t,cb_t,vt_t,ct_t,rfl,(show IB 0 from ⟨by omega,by omega⟩),(show IB 0 from ⟨by omega,by omega⟩),Small.nil,(RowOk.nil 1),(Nat.zero_le _),⟨hn1_t,hn16_t,ok_t.hl,ok_t.hb,ok_t.okb,ok_t.hkb,ok_t.okt,ok_t.hkt,(show t.bi.length = t.ps.length by first | exact hlen_t | (rw [List.length_eraseIdx,List.length_eraseIdx,hlen_t]) | (simp; omega)),(show t.ps.length ≤ 4096 by first | exact hmax_t | exact Nat.le_trans (List.length_eraseIdx_le ..) hmax_t | (simp; omega)),(show 0 ≤ t.lost by first | exact hl0_t | omega)⟩,htk.2.2,(((((((hs35.pick 1 rfl rfl).drop.pick 1 rfl rfl).drop.pick 4 rfl rfl).drop.pick 3 rfl rfl).pick 3 rfl rfl).pick 3 rfl rfl).pick 3 rfl rfl)⟩
 have hp30:¬ (((t.lookE i):Int) ≠ 0):=of_decide_eq_false hc30
 refine c_cond_f (t:=false) (.tmp rfl (congrArg Value.bool hc30)) rfl ?_
 refine c_skip ?_
 refine n_then ?_
 refine c_seq ?_
 refine c_region ?_
 have hin:=look_in (s:=t) (i:=i) (by omega)
 refine st (v:=.pointer (some ⟨g_t,0,none⟩)) (x_move (.tmp rfl rfl)) ?_
 refine st (v:=.int .i64 i) (x_move (.tmp rfl rfl)) ?_
 have hs37:=hs29.p3
 have hs38:=hs37.p3
 have hs39:=hs38.p3
 have okn40:NetOk H t vb_t cb_t vt_t ct_t:=⟨hn1_t,hn16_t,ok_t.hl,ok_t.hb,ok_t.okb,ok_t.hkb,ok_t.okt,ok_t.hkt,(show t.bi.length = t.ps.length by first | exact hlen_t | (rw [List.length_eraseIdx,List.length_eraseIdx,hlen_t]) | (simp; omega)),(show t.ps.length ≤ 4096 by first | exact hmax_t | exact Nat.le_trans (List.length_eraseIdx_le ..) hmax_t | (simp; omega)),(show 0 ≤ t.lost by first | exact hl0_t | omega)⟩
 have hs41:St H _ (netG 64 37 3 5 g_t t vb_t cb_t vt_t ct_t (obj g23 37 [.int .i64 ((t.peekP i).From),.int .i64 ((t.peekP i).To),v12]::row 5 1 v12 ((t.peekP i).Bytes.length) (((t.peekP i).Bytes).map encB)::obj g1 37 [.int .i64 0,.int .i64 0,.slice none 0 0]::L)):=St.netFold [obj g23 37 [.int .i64 ((t.peekP i).From),.int .i64 ((t.peekP i).To),v12],row 5 1 v12 ((t.peekP i).Bytes.length) (((t.peekP i).Bytes).map encB),obj g1 37 [.int .i64 0,.int .i64 0,.slice none 0 0]] hs39
 refine st_c cb38 .func (evs2 (.tmp rfl rfl) (.tmp rfl rfl)) (out_spec hs41 okn40 i ⟨b_i1,b_i2⟩ hin) ?_
 rintro e w42 ⟨nt49,vb44,cb45,vt46,ct47,rfl,ok48,hnt50,hs43⟩
 refine ⟨_,rfl,?_⟩
 have hn1_t:=ok48.n1
 have hn16_t:=ok48.n16
 have hlen_t:=ok48.len
 have hmax_t:=ok48.max
 have hl0_t:=ok48.l0
 have hs51:St H _ (obj g_t 64 (netCells nt49.n vb44 vt46 nt49.hr nt49.lost)::row 37 3 vb44 nt49.ps.length cb45::row 3 1 vt46 nt49.bi.length ct47::obj g23 37 [.int .i64 ((t.peekP i).From),.int .i64 ((t.peekP i).To),v12]::row 5 1 v12 ((t.peekP i).Bytes.length) (((t.peekP i).Bytes).map encB)::obj g1 37 [.int .i64 0,.int .i64 0,.slice none 0 0]::(nt49.ps.map (pkRes 5) ++ L)):=St.netUnfold [obj g23 37 [.int .i64 ((t.peekP i).From),.int .i64 ((t.peekP i).To),v12],row 5 1 v12 ((t.peekP i).Bytes.length) (((t.peekP i).Bytes).map encB),obj g1 37 [.int .i64 0,.int .i64 0,.slice none 0 0]] hs43
 refine c_nil ?_
 refine n_then ?_
 refine c_seq ?_
 refine c_seq ?_
 refine c_region ?_
 refine st (v:=.pointer (some ⟨g_t,0,none⟩)) (x_move (.tmp rfl rfl)) ?_
 refine st (v:=.pointer (some ⟨g23,0 + 0,none⟩)) (fa37_0 (.tmp rfl rfl)) ?_
 refine st (v:=.int .i64 ((t.peekP i).From)) (ld3 (.tmp rfl rfl) (hs51.cell 3 rfl (0 + 0) rfl)) ?_
 refine st (v:=.pointer (some ⟨g23,0 + 1,none⟩)) (fa37_1 (.tmp rfl rfl)) ?_
 refine st (v:=.int .i64 ((t.peekP i).To)) (ld3 (.tmp rfl rfl) (hs51.cell 3 rfl (0 + 1) rfl)) ?_
 have hs52:=hs51.p2
 have hs53:=hs52.p2
 have hs54:=hs53.p2
 have okn55:NetOk H nt49 vb44 cb45 vt46 ct47:=⟨hn1_t,hn16_t,ok48.hl,ok48.hb,ok48.okb,ok48.hkb,ok48.okt,ok48.hkt,(show nt49.bi.length = nt49.ps.length by first | exact hlen_t | (rw [List.length_eraseIdx,List.length_eraseIdx,hlen_t]) | (simp; omega)),(show nt49.ps.length ≤ 4096 by first | exact hmax_t | exact Nat.le_trans (List.length_eraseIdx_le ..) hmax_t | (simp; omega)),(show 0 ≤ nt49.lost by first | exact hl0_t | omega)⟩
 have hs56:St H _ (netG 64 37 3 5 g_t nt49 vb44 cb45 vt46 ct47 (obj g23 37 [.int .i64 ((t.peekP i).From),.int .i64 ((t.peekP i).To),v12]::row 5 1 v12 ((t.peekP i).Bytes.length) (((t.peekP i).Bytes).map encB)::obj g1 37 [.int .i64 0,.int .i64 0,.slice none 0 0]::L)):=St.netFold [obj g23 37 [.int .i64 ((t.peekP i).From),.int .i64 ((t.peekP i).To),v12],row 5 1 v12 ((t.peekP i).Bytes.length) (((t.peekP i).Bytes).map encB),obj g1 37 [.int .i64 0,.int .i64 0,.slice none 0 0]] hs54
 refine st_c cb15 .func (evs3 (.tmp rfl rfl) (.tmp rfl rfl) (.tmp rfl rfl)) (hear_spec hs56 okn55 ((t.peekP i).From) ⟨b17,b18⟩ ((t.peekP i).To) ⟨b19,b20⟩ ) ?_
 rintro e w57 ⟨rfl,hs58⟩
 refine ⟨_,rfl,?_⟩
 have hs59:St H _ (obj g_t 64 (netCells nt49.n vb44 vt46 nt49.hr nt49.lost)::row 37 3 vb44 nt49.ps.length cb45::row 3 1 vt46 nt49.bi.length ct47::obj g23 37 [.int .i64 ((t.peekP i).From),.int .i64 ((t.peekP i).To),v12]::row 5 1 v12 ((t.peekP i).Bytes.length) (((t.peekP i).Bytes).map encB)::obj g1 37 [.int .i64 0,.int .i64 0,.slice none 0 0]::(nt49.ps.map (pkRes 5) ++ L)):=St.netUnfold [obj g23 37 [.int .i64 ((t.peekP i).From),.int .i64 ((t.peekP i).To),v12],row 5 1 v12 ((t.peekP i).Bytes.length) (((t.peekP i).Bytes).map encB),obj g1 37 [.int .i64 0,.int .i64 0,.slice none 0 0]] hs58
 refine st (v:=.bool (!(nt49.hears ((t.peekP i).From) ((t.peekP i).To)))) (x_not (.tmp rfl rfl)) ?_
 refine c_nil ?_
 refine n_then ?_
 rcases Bool.eq_false_or_eq_true (nt49.hears ((t.peekP i).From) ((t.peekP i).To)) with hc60 | hc60
 refine c_cond_f (t:=false) (.tmp rfl (congrArg Value.bool (by rw [hc60]; rfl))) rfl ?_
 refine c_skip ?_
 refine n_then ?_
 refine c_seq ?_
 refine c_region ?_
 refine st (v:=.agg #[.int .i64 ((t.peekP i).From),.int .i64 ((t.peekP i).To),v12]) (ld37 (cs:=[.int .i64 ((t.peekP i).From),.int .i64 ((t.peekP i).To),v12]) (.tmp rfl rfl) (hs59.at_ 3 rfl (0) rfl) rfl) ?_
 have hs61:=hs59.p5
 refine st_m0 (sto37 (cs':=[.int .i64 ((t.peekP i).From),.int .i64 ((t.peekP i).To),v12]) (i:=0) hs61 (v:=.agg #[.int .i64 ((t.peekP i).From),.int .i64 ((t.peekP i).To),v12]) (.tmp rfl rfl) (.tmp rfl rfl) rfl (Nat.le_of_ble_eq_true rfl) (oneA (allC rfl (allC rfl (allC (RowOk.oneC ok14) rfl)))) rfl) ?_
 rintro w62 hs64
 refine st (v:=.int .i64 0) (x_assign .const) ?_
 refine c_nil ?_
 refine n_then ?_
 refine c_ret ?_
 refine leave_ret (res_two (v:=.agg #[.int .i64 ((t.peekP i).From),.int .i64 ((t.peekP i).To),v12]) (u:=.int .i64 0) rfl (.mkCell rfl rfl (lv37 (cs:=[.int .i64 ((t.peekP i).From),.int .i64 ((t.peekP i).To),v12]) (hs64.at_ 0 rfl 0 rfl) rfl)) (.mk rfl rfl)) ?_
 have hh:t.hears (t.peekP i).From (t.peekP i).To = true:=by have h9:=hc60; rw [hnt50] at h9; exact h9
 have htk:=take_yes hin hh
 rw [htk.1,htk.2.1]
 exact ⟨v12,(NetS.mk nt49.n nt49.hr nt49.ps nt49.bi nt49.lost),vb44,cb45,vt46,ct47,rfl,⟨b17,b18⟩,⟨b19,b20⟩,sm13,ok14,lb15,⟨hn1_t,hn16_t,ok48.hl,ok48.hb,ok48.okb,ok48.hkb,ok48.okt,ok48.hkt,(show nt49.bi.length = nt49.ps.length by first | exact hlen_t | (rw [List.length_eraseIdx,List.length_eraseIdx,hlen_t]) | (simp; omega)),(show nt49.ps.length ≤ 4096 by first | exact hmax_t | exact Nat.le_trans (List.length_eraseIdx_le ..) hmax_t | (simp; omega)),(show 0 ≤ nt49.lost by first | exact hl0_t | omega)⟩,(by rw [← htk.2.2,← hnt50]),(((((hs64.drop.pick 3 rfl rfl).drop.pick 2 rfl rfl).pick 2 rfl rfl).pick 2 rfl rfl).pick 3 rfl rfl)⟩
 refine c_cond_t (t:=true) (.tmp rfl (congrArg Value.bool (by rw [hc60]; rfl))) rfl ?_
 refine c_seq ?_
 refine c_region ?_
 refine st (v:=.pointer (some ⟨g_t,0,none⟩)) (x_move (.tmp rfl rfl)) ?_
 refine st (v:=.pointer (some ⟨g_t,0,none⟩)) (x_nilCheck (.tmp rfl rfl)) ?_
 refine st (v:=.pointer (some ⟨g_t,0 + 19,none⟩)) (fa64_4 (.tmp rfl rfl)) ?_
 refine st (v:=.int .i64 nt49.lost) (ld3 (.tmp rfl rfl) (hs59.cell 0 rfl (0 + 19) (net_lost ok48.hl))) ?_
 have hlo:nt49.lost = t.lost:=(congrArg NetS.lost hnt50).trans rfl
 refine st (v:=.int .i64 (nt49.lost + 1)) (x_add (k:=.i64) (a:=nt49.lost) (b:=1) (.tmp rfl rfl) .const (w64 (by omega) (by omega))) ?_
 refine st (v:=.pointer (some ⟨g_t,0,none⟩)) (x_nilCheck (.tmp rfl rfl)) ?_
 refine st (v:=.pointer (some ⟨g_t,0 + 19,none⟩)) (fa64_4 (.tmp rfl rfl)) ?_
 refine st_m0 (sto3 (cs':=(netCells nt49.n vb44 vt46 nt49.hr (nt49.lost + 1))) (i:=0 + 19) hs59 (v:=.int .i64 (nt49.lost + 1)) (.tmp rfl rfl) (.tmp rfl rfl) rfl (by rw [net_len ok48.hl]; omega) one1 (net_setL ok48.hl _)) ?_
 rintro w65 hs66
 refine c_nil ?_
 refine n_then ?_
 refine c_seq ?_
 refine c_region ?_
 refine st (v:=.agg #[.int .i64 0,.int .i64 0,.slice none 0 0]) (bl37 (ps:=[]) Evp.nil rfl) ?_
 have hs67:=hs66.p5
 refine st_m0 (sto37 (cs':=[.int .i64 0,.int .i64 0,.slice none 0 0]) (i:=0) hs67 (v:=.agg #[.int .i64 0,.int .i64 0,.slice none 0 0]) (.tmp rfl rfl) (.tmp rfl rfl) rfl (Nat.le_of_ble_eq_true rfl) (oneA rfl) rfl) ?_
 rintro w68 hs70
 refine st (v:=.int .i64 10) (x_assign .const) ?_
 refine c_nil ?_
 refine n_then ?_
 refine c_ret ?_
 refine r_then ?_
 refine leave_ret (res_two (v:=.agg #[.int .i64 0,.int .i64 0,.slice none 0 0]) (u:=.int .i64 10) rfl (.mkCell rfl rfl (lv37 (cs:=[.int .i64 0,.int .i64 0,.slice none 0 0]) (hs70.at_ 0 rfl 0 rfl) rfl)) (.mk rfl rfl)) ?_
 have hh:t.hears (t.peekP i).From (t.peekP i).To = false:=by have h9:=hc60; rw [hnt50] at h9; exact h9
 have htk:=take_cut hin hh
 rw [htk.1,htk.2.1]
 have hs71:St H _ (row 5 1 (.slice none 0 0) 0 (([]:List Nat).map encB)::obj g1 37 [.int .i64 0,.int .i64 0,.slice none 0 0]::obj g_t 64 (netCells nt49.n vb44 vt46 nt49.hr (nt49.lost + 1))::row 37 3 vb44 nt49.ps.length cb45::row 3 1 vt46 nt49.bi.length ct47::obj g23 37 [.int .i64 ((t.peekP i).From),.int .i64 ((t.peekP i).To),v12]::row 5 1 v12 ((t.peekP i).Bytes.length) (((t.peekP i).Bytes).map encB)::(nt49.ps.map (pkRes 5) ++ L)):=hs70.rowNil 5 1
 exact ⟨(.slice none 0 0),(NetS.mk nt49.n nt49.hr nt49.ps nt49.bi (nt49.lost + 1)),vb44,cb45,vt46,ct47,rfl,(show IB 0 from ⟨by omega,by omega⟩),(show IB 0 from ⟨by omega,by omega⟩),Small.nil,(RowOk.nil 1),(Nat.zero_le _),⟨hn1_t,hn16_t,ok48.hl,ok48.hb,ok48.okb,ok48.hkb,ok48.okt,ok48.hkt,(show nt49.bi.length = nt49.ps.length by first | exact hlen_t | (rw [List.length_eraseIdx,List.length_eraseIdx,hlen_t]) | (simp; omega)),(show nt49.ps.length ≤ 4096 by first | exact hmax_t | exact Nat.le_trans (List.length_eraseIdx_le ..) hmax_t | (simp; omega)),(show 0 ≤ (nt49.lost + 1) by first | exact hl0_t | omega)⟩,(by rw [← htk.2.2,← hnt50]; rfl),(((((((hs71.pick 1 rfl rfl).drop.pick 4 rfl rfl).drop.pick 4 rfl rfl).drop.pick 3 rfl rfl).pick 3 rfl rfl).pick 3 rfl rfl).pick 3 rfl rfl)⟩
set_option maxHeartbeats 8000000 in
theorem Double_spec {H:Hp} {w:World} {L:List Res} {g_t:Nat} {t:NetS} {vb_t:Value} {cb_t:List Value} {vt_t:Value} {ct_t:List Value} (hs:St H w (netG 64 37 3 5 g_t t vb_t cb_t vt_t ct_t (L))) (ok_t:NetOk H t vb_t cb_t vt_t ct_t) (i:Int) (b_i:IB i) (hlost:t.lost < 4611686018427387904):Calls Tryd.prog 20 #[.pointer (some ⟨g_t,0,none⟩),.int .i64 i] w (fun e w' => ∃ (t':NetS) (vb_t':Value) (cb_t':List Value) (vt_t':Value) (ct_t':List Value) (v_:Value),e = .returned (.int .i64 (t.doubleE i))∧NetOk H t' vb_t' cb_t' vt_t' ct_t'∧t' = NetS.doubleS t i v_∧St H w' (netG 64 37 3 5 g_t t' vb_t' cb_t' vt_t' ct_t' (L))):=by
 have hn1_t:=ok_t.n1
 have hn16_t:=ok_t.n16
 have hlen_t:=ok_t.len
 have hmax_t:=ok_t.max
 have hl0_t:=ok_t.l0
 have hs:St H w (obj g_t 64 (netCells t.n vb_t vt_t t.hr t.lost)::row 37 3 vb_t t.ps.length cb_t::row 3 1 vt_t t.bi.length ct_t::(t.ps.map (pkRes 5) ++ L)):=hs
 obtain ⟨b_i1,b_i2⟩:=b_i
 refine enter (args:=[.pointer (some ⟨g_t,0,none⟩),.int .i64 i]) (N:=26) Tryd.func20 rfl rfl rfl ?_
 refine c_seq ?_
 refine c_region ?_
 refine st (v:=.int .i64 0) (x_assign .const) ?_
 refine c_nil ?_
 refine n_then ?_
 refine c_seq ?_
 refine c_region ?_
 refine st (v:=.pointer (some ⟨g_t,0,none⟩)) (x_move (.tmp rfl rfl)) ?_
 refine st (v:=.int .i64 i) (x_move (.tmp rfl rfl)) ?_
 have hs1:=hs.p2
 have hs2:=hs1.p2
 have hs3:=hs2.p2
 have okn4:NetOk H t vb_t cb_t vt_t ct_t:=⟨hn1_t,hn16_t,ok_t.hl,ok_t.hb,ok_t.okb,ok_t.hkb,ok_t.okt,ok_t.hkt,(show t.bi.length = t.ps.length by first | exact hlen_t | (rw [List.length_eraseIdx,List.length_eraseIdx,hlen_t]) | (simp; omega)),(show t.ps.length ≤ 4096 by first | exact hmax_t | exact Nat.le_trans (List.length_eraseIdx_le ..) hmax_t | (simp; omega)),(show 0 ≤ t.lost by first | exact hl0_t | omega)⟩
 have hs5:St H _ (netG 64 37 3 5 g_t t vb_t cb_t vt_t ct_t (L)):=St.netFold [] hs3
 refine st_c cb21 .func (evs2 (.tmp rfl rfl) (.tmp rfl rfl)) (Peek_spec hs5 okn4 i ⟨b_i1,b_i2⟩ ) ?_
 rintro e w6 ⟨v8,rfl,⟨b13,b14⟩,⟨b15,b16⟩,sm9,ok10,lb11,hs7⟩
 refine ⟨_,rfl,?_⟩
 have hs18:=St.netUp [row 5 1 v8 ((t.peekP i).Bytes.length) (((t.peekP i).Bytes).map encB)] hs7
 have hs17:St H _ (obj g_t 64 (netCells t.n vb_t vt_t t.hr t.lost)::row 37 3 vb_t t.ps.length cb_t::row 3 1 vt_t t.bi.length ct_t::row 5 1 v8 ((t.peekP i).Bytes.length) (((t.peekP i).Bytes).map encB)::(t.ps.map (pkRes 5) ++ L)):=St.netUnfold [row 5 1 v8 ((t.peekP i).Bytes.length) (((t.peekP i).Bytes).map encB)] hs18
 refine st (v:=.tuple #[.agg #[.int .i64 ((t.peekP i).From),.int .i64 ((t.peekP i).To),v8],.int .i64 (t.lookE i)]) (x_move (.tmp rfl rfl)) ?_
 refine st (v:=.agg #[.int .i64 ((t.peekP i).From),.int .i64 ((t.peekP i).To),v8]) (x_extract (.tmp rfl rfl) (i:=0) rfl) ?_
 refine st (v:=.int .i64 (t.lookE i)) (x_extract (.tmp rfl rfl) (i:=1) rfl) ?_
 refine st_m (al37 (cs:=[.int .i64 0,.int .i64 0,.slice none 0 0]) hs17 rfl) ?_
 rintro _ w20 ⟨g19,rfl,hs22⟩
 refine st_m0 (sto37 (cs':=[.int .i64 ((t.peekP i).From),.int .i64 ((t.peekP i).To),v8]) (i:=0) hs22 (v:=.agg #[.int .i64 ((t.peekP i).From),.int .i64 ((t.peekP i).To),v8]) (.tmp rfl rfl) (.tmp rfl rfl) rfl (Nat.le_of_ble_eq_true rfl) (oneA (allC rfl (allC rfl (allC (RowOk.oneC ok10) rfl)))) rfl) ?_
 rintro w23 hs25
 refine st (v:=.int .i64 (t.lookE i)) (x_assign (.tmp rfl rfl)) ?_
 refine c_nil ?_
 refine n_then ?_
 refine c_seq ?_
 refine c_seq ?_
 refine c_region ?_
 refine st (v:=.int .i64 (t.lookE i)) (x_move (.tmp rfl rfl)) ?_
 refine st (v:=.bool (decide (((t.lookE i):Int) ≠ 0))) (x_neq (k:=.i64) (a:=(t.lookE i)) (b:=0) (.tmp rfl rfl) .const) ?_
 refine c_nil ?_
 refine n_then ?_
 rcases Bool.eq_false_or_eq_true (decide (((t.lookE i):Int) ≠ 0)) with hc26 | hc26
 have hp26:((t.lookE i):Int) ≠ 0:=of_decide_eq_true hc26
 refine c_cond_t (t:=true) (.tmp rfl (congrArg Value.bool hc26)) rfl ?_
 refine c_seq ?_
 refine c_region ?_
 refine st (v:=.int .i64 (t.lookE i)) (x_move (.tmp rfl rfl)) ?_
 refine st (v:=.int .i64 (t.lookE i)) (x_assign (.tmp rfl rfl)) ?_
 refine c_nil ?_
 refine n_then ?_
 refine c_ret ?_
 refine r_then ?_
 refine leave_ret (res_one (v:=.int .i64 (t.lookE i)) rfl (.mk rfl rfl)) ?_
 have hdb:=double_no (s:=t) (v:=.slice none 0 0) (look_out (i:=i) (by omega))
 have hl1:t.lookE i = 1:=lookE_1 (look_out (by omega))
 rw [show t.doubleE i = t.lookE i from hdb.1.trans hl1.symm]
 exact ⟨(NetS.mk t.n t.hr t.ps t.bi t.lost),vb_t,cb_t,vt_t,ct_t,(.slice none 0 0),rfl,⟨hn1_t,hn16_t,ok_t.hl,ok_t.hb,ok_t.okb,ok_t.hkb,ok_t.okt,ok_t.hkt,(show t.bi.length = t.ps.length by first | exact hlen_t | (rw [List.length_eraseIdx,List.length_eraseIdx,hlen_t]) | (simp; omega)),(show t.ps.length ≤ 4096 by first | exact hmax_t | exact Nat.le_trans (List.length_eraseIdx_le ..) hmax_t | (simp; omega)),(show 0 ≤ t.lost by first | exact hl0_t | omega)⟩,hdb.2,((((hs25.drop.pick 3 rfl rfl).drop.pick 2 rfl rfl).pick 2 rfl rfl).pick 2 rfl rfl)⟩
 have hp26:¬ (((t.lookE i):Int) ≠ 0):=of_decide_eq_false hc26
 refine c_cond_f (t:=false) (.tmp rfl (congrArg Value.bool hc26)) rfl ?_
 refine c_skip ?_
 refine n_then ?_
 refine c_seq ?_
 refine t_region (L:=obj g19 37 [.int .i64 ((t.peekP i).From),.int .i64 ((t.peekP i).To),v8]::obj g_t 64 (netCells t.n vb_t vt_t t.hr t.lost)::row 37 3 vb_t t.ps.length cb_t::row 3 1 vt_t t.bi.length ct_t::row 5 1 v8 ((t.peekP i).Bytes.length) (((t.peekP i).Bytes).map encB)::(t.ps.map (pkRes 5) ++ L)) (L':=obj g19 37 [.int .i64 ((t.peekP i).From),.int .i64 ((t.peekP i).To),v8]::obj g_t 64 (netCells t.n vb_t vt_t t.hr t.lost)::row 37 3 vb_t t.ps.length cb_t::row 3 1 vt_t t.bi.length ct_t::row 5 1 v8 ((t.peekP i).Bytes.length) (((t.peekP i).Bytes).map encB)::(t.ps.map (pkRes 5) ++ L)) (Z:=[9]) (F:=[2,3]) (pl:=(.q 0 (.q 1 (.q 2 (.q 3 (.q 4 (.q 5 (.q 6 (.q 7 (.q 8 (.e 9 (.q 10 .done)))))))))))) mixed hs25 (fun u hu => hu) (by kernel_rfl) ?_
 intro w27 hs28
 have hin:=look_in (s:=t) (i:=i) (by omega)
 have hbl:i.toNat < t.bi.length:=by omega
 refine t_st (k:=0) (v:=.pointer (some ⟨g_t,0,none⟩)) rfl rfl (fun w hs => (x_move (.tmp rfl rfl))) ?_
 refine t_st (k:=1) (v:=.agg #[.int .i64 ((t.peekP i).From),.int .i64 ((t.peekP i).To),v8]) rfl rfl (fun w hs => (ld37 (cs:=[.int .i64 ((t.peekP i).From),.int .i64 ((t.peekP i).To),v8]) (.tmp rfl rfl) (hs.at_ 0 rfl (0) rfl) rfl)) ?_
 refine t_fr (k:=2) (v:=.pointer (some ⟨g_t,0,none⟩)) rfl (fun w _ => (x_move (.tmp rfl rfl))) ?_
 refine t_fr (k:=3) (v:=.pointer (some ⟨g_t,0,none⟩)) rfl (fun w _ => (x_nilCheck (.tmp rfl rfl))) ?_
 refine t_st (k:=4) (v:=.pointer (some ⟨g_t,0 + 2,none⟩)) rfl rfl (fun w hs => (fa64_2 (.tmp rfl rfl))) ?_
 refine t_st (k:=5) (v:=vt_t) rfl rfl (fun w hs => (ld52 (.tmp rfl rfl) (hs.cell 1 rfl (0 + 2) rfl))) ?_
 refine t_st (k:=6) (v:=.int .i64 i) rfl rfl (fun w hs => (x_move (.tmp rfl rfl))) ?_
 obtain ⟨g29,c30,hv31⟩:=ok_t.okt.pos (by omega)
 obtain ⟨e32,cs33,hx34,hr35,hsub36⟩:=Kn.rows_get (i:=i.toNat) ok_t.hkt (by omega)
 obtain ⟨rfl,⟨b37,b38⟩⟩:=hr35
 refine t_st (k:=7) (v:=.pointer (some ⟨g29,(i.toNat * 1),none⟩)) rfl rfl (fun w hs => (ixo52 (.tmp rfl hv31) rfl (i:=i) (.tmp rfl rfl) (by omega) (by omega) (by omega))) ?_
 refine t_st (k:=8) (v:=.int .i64 e32) rfl rfl (fun w hs => (ld3 (.tmp rfl rfl) ((hs.rowAt 3 rfl hv31 (i.toNat * 1) hsub36).cell 0 rfl))) ?_
 have hbi:t.bi.getD i.toNat 0 = e32:=by rw [List.getD_eq_getElem?_getD,hx34]; rfl
 refine t_eff (k:=9) rfl ?_
 have hs39:=hs28.p4
 obtain ⟨H40,A41,c42,hle43,hs44,rfl,hp45⟩:=hs39.freezeBs ok10 sm9 (by omega)
 have hy46:By H40 A41 ((t.peekP i).Bytes.length) c42 ((t.peekP i).Bytes):=⟨hp45,by omega⟩
 have hs47:=hs44.p3
 have hs48:=hs47.p3
 have hs49:=hs48.p3
 have okn50:NetOk H40 t vb_t cb_t vt_t ct_t:=⟨hn1_t,hn16_t,ok_t.hl,ok_t.hb,ok_t.okb,(Kn.rows_mono ok_t.hkb hle43),ok_t.okt,(Kn.rows_mono ok_t.hkt hle43),(show t.bi.length = t.ps.length by first | exact hlen_t | (rw [List.length_eraseIdx,List.length_eraseIdx,hlen_t]) | (simp; omega)),(show t.ps.length ≤ 4096 by first | exact hmax_t | exact Nat.le_trans (List.length_eraseIdx_le ..) hmax_t | (simp; omega)),(show 0 ≤ t.lost by first | exact hl0_t | omega)⟩
 have hs51:St H40 _ (netG 64 37 3 5 g_t t vb_t cb_t vt_t ct_t (obj g19 37 [.int .i64 ((t.peekP i).From),.int .i64 ((t.peekP i).To),.slice A41 ((t.peekP i).Bytes.length) c42]::L)):=St.netFold [obj g19 37 [.int .i64 ((t.peekP i).From),.int .i64 ((t.peekP i).To),.slice A41 ((t.peekP i).Bytes.length) c42]] hs49
 have hr52:kPacket.rep H40 (t.peekP i) [.int .i64 ((t.peekP i).From),.int .i64 ((t.peekP i).To),.slice A41 ((t.peekP i).Bytes.length) c42]:=⟨A41,((t.peekP i).Bytes.length),c42,rfl,⟨b13,b14⟩,⟨b15,b16⟩,hy46⟩
 refine st_c cb35 .func (evs3 (.tmp rfl rfl) (.tmp rfl rfl) (.tmp rfl rfl)) (put_spec hs51 okn50 (t.peekP i) hr52 e32 ⟨b37,b38⟩ hlost) ?_
 rintro e w53 ⟨nt60,vb55,cb56,vt57,ct58,v_62,rfl,ok59,hnt61,hs54⟩
 refine ⟨_,rfl,?_⟩
 have hn1_t:=ok59.n1
 have hn16_t:=ok59.n16
 have hlen_t:=ok59.len
 have hmax_t:=ok59.max
 have hl0_t:=ok59.l0
 have hs63:St H40 _ (obj g_t 64 (netCells nt60.n vb55 vt57 nt60.hr nt60.lost)::row 37 3 vb55 nt60.ps.length cb56::row 3 1 vt57 nt60.bi.length ct58::obj g19 37 [.int .i64 ((t.peekP i).From),.int .i64 ((t.peekP i).To),.slice A41 ((t.peekP i).Bytes.length) c42]::(nt60.ps.map (pkRes 5) ++ L)):=St.netUnfold [obj g19 37 [.int .i64 ((t.peekP i).From),.int .i64 ((t.peekP i).To),.slice A41 ((t.peekP i).Bytes.length) c42]] hs54
 refine t_new (S':=fun u => St H40 u (obj g_t 64 (netCells nt60.n vb55 vt57 nt60.hr nt60.lost)::row 37 3 vb55 nt60.ps.length cb56::row 3 1 vt57 nt60.bi.length ct58::obj g19 37 [.int .i64 ((t.peekP i).From),.int .i64 ((t.peekP i).To),.slice A41 ((t.peekP i).Bytes.length) c42]::(nt60.ps.map (pkRes 5) ++ L))) rfl hs63 ?_
 refine t_st (k:=10) (v:=.int .i64 (t.putE (t.peekP i).From (t.peekP i).To)) rfl rfl (fun w hs => (x_assign (.tmp rfl rfl))) ?_
 refine t_nil ?_
 refine n_then ?_
 refine c_ret ?_
 refine leave_ret (res_one (v:=.int .i64 (t.putE (t.peekP i).From (t.peekP i).To)) rfl (.mk rfl rfl)) ?_
 have hdb:=double_yes (v:=v_62) hin
 rw [hdb.1]
 exact ⟨(NetS.mk nt60.n nt60.hr nt60.ps nt60.bi nt60.lost),vb55,cb56,vt57,ct58,v_62,rfl,⟨hn1_t,hn16_t,ok59.hl,ok59.hb,ok59.okb,(kPk_any ok59.hkb),ok59.okt,(kI_any ok59.hkt),(show nt60.bi.length = nt60.ps.length by first | exact hlen_t | (rw [List.length_eraseIdx,List.length_eraseIdx,hlen_t]) | (simp; omega)),(show nt60.ps.length ≤ 4096 by first | exact hmax_t | exact Nat.le_trans (List.length_eraseIdx_le ..) hmax_t | (simp; omega)),(show 0 ≤ nt60.lost by first | exact hl0_t | omega)⟩,(by rw [hdb.2,hbi]; exact hnt61),(((((hs63.pick 3 rfl rfl).drop.pick 2 rfl rfl).pick 2 rfl rfl).pick 2 rfl rfl).weaken hle43)⟩
set_option maxHeartbeats 8000000 in
theorem Turn_spec {H:Hp} {w:World} {L:List Res} {g_t:Nat} {t:NetS} {vb_t:Value} {cb_t:List Value} {vt_t:Value} {ct_t:List Value} (hs:St H w (netG 64 37 3 5 g_t t vb_t cb_t vt_t ct_t (L))) (ok_t:NetOk H t vb_t cb_t vt_t ct_t) (i:Int) (b_i:IB i) (k:Int) (b_k:IB k):Calls Tryd.prog 19 #[.pointer (some ⟨g_t,0,none⟩),.int .i64 i,.int .i64 k] w (fun e w' => ∃ (t':NetS) (vb_t':Value) (cb_t':List Value) (vt_t':Value) (ct_t':List Value),e = .returned (.int .i64 (t.turnE i k))∧NetOk H t' vb_t' cb_t' vt_t' ct_t'∧t' = NetS.turnS t i k∧St H w' (netG 64 37 3 5 g_t t' vb_t' cb_t' vt_t' ct_t' (L))):=by
 have hn1_t:=ok_t.n1
 have hn16_t:=ok_t.n16
 have hlen_t:=ok_t.len
 have hmax_t:=ok_t.max
 have hl0_t:=ok_t.l0
 have hs:St H w (obj g_t 64 (netCells t.n vb_t vt_t t.hr t.lost)::row 37 3 vb_t t.ps.length cb_t::row 3 1 vt_t t.bi.length ct_t::(t.ps.map (pkRes 5) ++ L)):=hs
 obtain ⟨b_i1,b_i2⟩:=b_i
 obtain ⟨b_k1,b_k2⟩:=b_k
 refine enter (args:=[.pointer (some ⟨g_t,0,none⟩),.int .i64 i,.int .i64 k]) (N:=59) Tryd.func19 rfl rfl rfl ?_
 refine c_seq ?_
 refine c_region ?_
 refine st (v:=.int .i64 0) (x_assign .const) ?_
 refine c_nil ?_
 refine n_then ?_
 refine c_seq ?_
 refine c_seq ?_
 refine c_region ?_
 refine st (v:=.pointer (some ⟨g_t,0,none⟩)) (x_move (.tmp rfl rfl)) ?_
 refine st (v:=.int .i64 i) (x_move (.tmp rfl rfl)) ?_
 have hs1:=hs.p2
 have hs2:=hs1.p2
 have hs3:=hs2.p2
 have okn4:NetOk H t vb_t cb_t vt_t ct_t:=⟨hn1_t,hn16_t,ok_t.hl,ok_t.hb,ok_t.okb,ok_t.hkb,ok_t.okt,ok_t.hkt,(show t.bi.length = t.ps.length by first | exact hlen_t | (rw [List.length_eraseIdx,List.length_eraseIdx,hlen_t]) | (simp; omega)),(show t.ps.length ≤ 4096 by first | exact hmax_t | exact Nat.le_trans (List.length_eraseIdx_le ..) hmax_t | (simp; omega)),(show 0 ≤ t.lost by first | exact hl0_t | omega)⟩
 have hs5:St H _ (netG 64 37 3 5 g_t t vb_t cb_t vt_t ct_t (L)):=St.netFold [] hs3
 refine st_c cb36 .func (evs2 (.tmp rfl rfl) (.tmp rfl rfl)) (look_spec hs5 okn4 i ⟨b_i1,b_i2⟩ ) ?_
 rintro e w6 ⟨rfl,hs7⟩
 refine ⟨_,rfl,?_⟩
 have hs8:St H _ (obj g_t 64 (netCells t.n vb_t vt_t t.hr t.lost)::row 37 3 vb_t t.ps.length cb_t::row 3 1 vt_t t.bi.length ct_t::(t.ps.map (pkRes 5) ++ L)):=St.netUnfold [] hs7
 refine st (v:=.int .i64 (t.lookE i)) (x_assign (.tmp rfl rfl)) ?_
 refine c_nil ?_
 refine n_then ?_
 refine c_seq ?_
 refine c_region ?_
 refine st (v:=.int .i64 (t.lookE i)) (x_move (.tmp rfl rfl)) ?_
 refine st (v:=.bool (decide (((t.lookE i):Int) ≠ 0))) (x_neq (k:=.i64) (a:=(t.lookE i)) (b:=0) (.tmp rfl rfl) .const) ?_
 refine c_nil ?_
 refine n_then ?_
 rcases Bool.eq_false_or_eq_true (decide (((t.lookE i):Int) ≠ 0)) with hc9 | hc9
 have hp9:((t.lookE i):Int) ≠ 0:=of_decide_eq_true hc9
 refine c_cond_t (t:=true) (.tmp rfl (congrArg Value.bool hc9)) rfl ?_
 refine c_seq ?_
 refine c_region ?_
 refine st (v:=.int .i64 (t.lookE i)) (x_move (.tmp rfl rfl)) ?_
 refine st (v:=.int .i64 (t.lookE i)) (x_assign (.tmp rfl rfl)) ?_
 refine c_nil ?_
 refine n_then ?_
 refine c_ret ?_
 refine r_then ?_
 refine leave_ret (res_one (v:=.int .i64 (t.lookE i)) rfl (.mk rfl rfl)) ?_
 have hl1:t.lookE i = 1:=lookE_1 (look_out (by omega))
 have htn:=turnNo (s:=t) (i:=i) (k:=k) (fun h => look_out (by omega) h.1)
 rw [show t.turnE i k = t.lookE i from htn.1.trans hl1.symm]
 exact ⟨(NetS.mk t.n t.hr t.ps t.bi t.lost),vb_t,cb_t,vt_t,ct_t,rfl,⟨hn1_t,hn16_t,ok_t.hl,ok_t.hb,ok_t.okb,ok_t.hkb,ok_t.okt,ok_t.hkt,(show t.bi.length = t.ps.length by first | exact hlen_t | (rw [List.length_eraseIdx,List.length_eraseIdx,hlen_t]) | (simp; omega)),(show t.ps.length ≤ 4096 by first | exact hmax_t | exact Nat.le_trans (List.length_eraseIdx_le ..) hmax_t | (simp; omega)),(show 0 ≤ t.lost by first | exact hl0_t | omega)⟩,htn.2,(((hs8.pick 2 rfl rfl).pick 2 rfl rfl).pick 2 rfl rfl)⟩
 have hp9:¬ (((t.lookE i):Int) ≠ 0):=of_decide_eq_false hc9
 refine c_cond_f (t:=false) (.tmp rfl (congrArg Value.bool hc9)) rfl ?_
 refine c_skip ?_
 refine n_then ?_
 refine c_seq ?_
 refine c_region ?_
 have hin:=look_in (s:=t) (i:=i) (by omega)
 refine st (v:=.pointer (some ⟨g_t,0,none⟩)) (x_move (.tmp rfl rfl)) ?_
 refine st (v:=.pointer (some ⟨g_t,0,none⟩)) (x_nilCheck (.tmp rfl rfl)) ?_
 refine st (v:=.pointer (some ⟨g_t,0 + 1,none⟩)) (fa64_1 (.tmp rfl rfl)) ?_
 refine st (v:=vb_t) (ld51 (.tmp rfl rfl) (hs8.cell 0 rfl (0 + 1) rfl)) ?_
 refine st (v:=.int .i64 i) (x_move (.tmp rfl rfl)) ?_
 obtain ⟨g10,c11,hv12⟩:=ok_t.okb.pos (by omega)
 obtain ⟨e13,cs14,hx15,hr16,hsub17⟩:=Kn.rows_get (i:=i.toNat) ok_t.hkb (by omega)
 obtain ⟨rfl,⟨b18,b19⟩,⟨b20,b21⟩,ok22,sm23,lb24⟩:=hr16
 refine st (v:=.pointer (some ⟨g10,(i.toNat * 3),none⟩)) (ixo51 (.tmp rfl hv12) rfl (i:=i) (.tmp rfl rfl) (by omega) (by omega) (by omega)) ?_
 refine st (v:=.pointer (some ⟨g10,(i.toNat * 3) + 2,none⟩)) (fa37_2 (.tmp rfl rfl)) ?_
 refine st (v:=e13.v) (ld22 (.tmp rfl rfl) ((hs8.rowAt 1 rfl hv12 (i.toNat * 3) hsub17).cell 2 rfl)) ?_
 refine st (v:=e13.v) (x_assign (.tmp rfl rfl)) ?_
 refine c_nil ?_
 refine n_then ?_
 refine c_seq ?_
 refine c_seq ?_
 refine c_region ?_
 skip
 refine st (v:=.int .i64 k) (x_move (.tmp rfl rfl)) ?_
 refine st (v:=.bool (decide ((k:Int) < 0))) (x_lss (k:=.i64) (a:=k) (b:=0) (.tmp rfl rfl) .const) ?_
 refine st (v:=.bool (decide ((k:Int) < 0))) (x_move (.tmp rfl rfl)) ?_
 rcases Bool.eq_false_or_eq_true (decide ((k:Int) < 0)) with hc25 | hc25
 have hp25:(k:Int) < 0:=of_decide_eq_true hc25
 refine g_no (yl (dj:=25) (b:=true) rfl rfl (congrArg Value.bool hc25)) rfl ?_
 refine g_no (yl (dj:=25) (b:=true) rfl rfl (congrArg Value.bool hc25)) rfl ?_
 refine g_no (yl (dj:=25) (b:=true) rfl rfl (congrArg Value.bool hc25)) rfl ?_
 refine g_no (yl (dj:=25) (b:=true) rfl rfl (congrArg Value.bool hc25)) rfl ?_
 refine g_no (yl (dj:=25) (b:=true) rfl rfl (congrArg Value.bool hc25)) rfl ?_
 refine st (v:=.bool true) (x_pick_t (.tmp rfl (congrArg Value.bool hc25)) .const) ?_
 refine c_nil ?_
 refine n_then ?_
 refine c_cond_t (t:=true) (.tmp rfl rfl) rfl ?_
 refine c_seq ?_
 refine c_region ?_
 refine st (v:=.int .i64 1) (x_assign .const) ?_
 refine c_nil ?_
 refine n_then ?_
 refine c_ret ?_
 refine r_then ?_
 refine leave_ret (res_one (v:=.int .i64 1) rfl (.mk rfl rfl)) ?_
 have hno:¬ t.turnOk i k:=fun h => by have h2:=h.2; rw [peek_at hin.1 hx15] at h2; have h3:0 ≤ k∧k < 8 * (e13.bs.length:Int):=h2; omega
 have htn:=turnNo hno
 rw [htn.1]
 exact ⟨(NetS.mk t.n t.hr t.ps t.bi t.lost),vb_t,cb_t,vt_t,ct_t,rfl,⟨hn1_t,hn16_t,ok_t.hl,ok_t.hb,ok_t.okb,ok_t.hkb,ok_t.okt,ok_t.hkt,(show t.bi.length = t.ps.length by first | exact hlen_t | (rw [List.length_eraseIdx,List.length_eraseIdx,hlen_t]) | (simp; omega)),(show t.ps.length ≤ 4096 by first | exact hmax_t | exact Nat.le_trans (List.length_eraseIdx_le ..) hmax_t | (simp; omega)),(show 0 ≤ t.lost by first | exact hl0_t | omega)⟩,htn.2,(((hs8.pick 2 rfl rfl).pick 2 rfl rfl).pick 2 rfl rfl)⟩
 have hp25:¬ ((k:Int) < 0):=of_decide_eq_false hc25
 refine g_yes (yl (dj:=25) (b:=false) rfl rfl (congrArg Value.bool hc25)) ?_
 refine st (v:=.int .i64 k) (x_move (.tmp rfl rfl)) ?_
 refine g_yes (yl (dj:=25) (b:=false) rfl rfl (congrArg Value.bool hc25)) ?_
 refine st (v:=e13.v) (x_move (.tmp rfl rfl)) ?_
 refine g_yes (yl (dj:=25) (b:=false) rfl rfl (congrArg Value.bool hc25)) ?_
 obtain ⟨A26,c27,hv28,hc29⟩:=ok22.slice
 refine st (v:=.int .i64 ((e13.bs.length:Nat):Int)) (x_len (n:=e13.bs.length) Tryd.underlying22 (.tmp rfl hv28)) ?_
 refine g_yes (yl (dj:=25) (b:=false) rfl rfl (congrArg Value.bool hc25)) ?_
 refine st (v:=.int .i64 (((8 * e13.bs.length):Nat):Int)) (x_mul (k:=.i64) (a:=8) (b:=((e13.bs.length:Nat):Int)) .const (.tmp rfl rfl) ((w64 (by omega) (by omega)).trans (by omega))) ?_
 refine g_yes (yl (dj:=25) (b:=false) rfl rfl (congrArg Value.bool hc25)) ?_
 refine st (v:=.bool (decide (((((8 * e13.bs.length):Nat):Int):Int) ≤ k))) (x_geq (k:=.i64) (a:=k) (b:=(((8 * e13.bs.length):Nat):Int)) (.tmp rfl rfl) (.tmp rfl rfl)) ?_
 refine st (v:=.bool (decide (((((8 * e13.bs.length):Nat):Int):Int) ≤ k))) (x_pick_f (.tmp rfl (congrArg Value.bool hc25)) (.tmp rfl rfl)) ?_
 refine c_nil ?_
 refine n_then ?_
 rcases Bool.eq_false_or_eq_true (decide (((((8 * e13.bs.length):Nat):Int):Int) ≤ k)) with hc30 | hc30
 have hp30:((((8 * e13.bs.length):Nat):Int):Int) ≤ k:=of_decide_eq_true hc30
 refine c_cond_t (t:=true) (.tmp rfl (congrArg Value.bool hc30)) rfl ?_
 refine c_seq ?_
 refine c_region ?_
 refine st (v:=.int .i64 1) (x_assign .const) ?_
 refine c_nil ?_
 refine n_then ?_
 refine c_ret ?_
 refine r_then ?_
 refine leave_ret (res_one (v:=.int .i64 1) rfl (.mk rfl rfl)) ?_
 have hno:¬ t.turnOk i k:=fun h => by have h2:=h.2; rw [peek_at hin.1 hx15] at h2; have h3:0 ≤ k∧k < 8 * (e13.bs.length:Int):=h2; omega
 have htn:=turnNo hno
 rw [htn.1]
 exact ⟨(NetS.mk t.n t.hr t.ps t.bi t.lost),vb_t,cb_t,vt_t,ct_t,rfl,⟨hn1_t,hn16_t,ok_t.hl,ok_t.hb,ok_t.okb,ok_t.hkb,ok_t.okt,ok_t.hkt,(show t.bi.length = t.ps.length by first | exact hlen_t | (rw [List.length_eraseIdx,List.length_eraseIdx,hlen_t]) | (simp; omega)),(show t.ps.length ≤ 4096 by first | exact hmax_t | exact Nat.le_trans (List.length_eraseIdx_le ..) hmax_t | (simp; omega)),(show 0 ≤ t.lost by first | exact hl0_t | omega)⟩,htn.2,(((hs8.pick 2 rfl rfl).pick 2 rfl rfl).pick 2 rfl rfl)⟩
 have hp30:¬ (((((8 * e13.bs.length):Nat):Int):Int) ≤ k):=of_decide_eq_false hc30
 refine c_cond_f (t:=false) (.tmp rfl (congrArg Value.bool hc30)) rfl ?_
 refine c_skip ?_
 refine n_then ?_
 refine c_seq ?_
 refine c_seq ?_
 refine c_region ?_
 have hbl:i.toNat < t.bi.length:=by omega
 refine st (v:=.pointer (some ⟨g_t,0,none⟩)) (x_move (.tmp rfl rfl)) ?_
 refine st (v:=.pointer (some ⟨g_t,0,none⟩)) (x_nilCheck (.tmp rfl rfl)) ?_
 refine st (v:=.pointer (some ⟨g_t,0 + 2,none⟩)) (fa64_2 (.tmp rfl rfl)) ?_
 refine st (v:=vt_t) (ld52 (.tmp rfl rfl) (hs8.cell 0 rfl (0 + 2) rfl)) ?_
 refine st (v:=.int .i64 i) (x_move (.tmp rfl rfl)) ?_
 obtain ⟨g31,c32,hv33⟩:=ok_t.okt.pos (by omega)
 obtain ⟨e34,cs35,hx36,hr37,hsub38⟩:=Kn.rows_get (i:=i.toNat) ok_t.hkt (by omega)
 obtain ⟨rfl,⟨b39,b40⟩⟩:=hr37
 refine st (v:=.pointer (some ⟨g31,(i.toNat * 1),none⟩)) (ixo52 (.tmp rfl hv33) rfl (i:=i) (.tmp rfl rfl) (by omega) (by omega) (by omega)) ?_
 refine st (v:=.int .i64 e34) (ld3 (.tmp rfl rfl) ((hs8.rowAt 2 rfl hv33 (i.toNat * 1) hsub38).cell 0 rfl)) ?_
 refine st (v:=.bool (decide ((2:Int) ≤ e34))) (x_geq (k:=.i64) (a:=e34) (b:=2) (.tmp rfl rfl) .const) ?_
 refine c_nil ?_
 refine n_then ?_
 rcases Bool.eq_false_or_eq_true (decide ((2:Int) ≤ e34)) with hc41 | hc41
 have hp41:(2:Int) ≤ e34:=of_decide_eq_true hc41
 refine c_cond_t (t:=true) (.tmp rfl (congrArg Value.bool hc41)) rfl ?_
 refine c_seq ?_
 refine c_region ?_
 have hbi:t.bi.getD i.toNat 0 = e34:=by rw [List.getD_eq_getElem?_getD,hx36]; rfl
 refine st (v:=.int .i64 8) (x_assign .const) ?_
 refine c_nil ?_
 refine n_then ?_
 refine c_ret ?_
 refine r_then ?_
 refine leave_ret (res_one (v:=.int .i64 8) rfl (.mk rfl rfl)) ?_
 have hto:t.turnOk i k:=⟨hin,by rw [peek_at hin.1 hx15]; exact (show 0 ≤ k∧k < 8 * (e13.bs.length:Int) from ⟨by omega,by omega⟩)⟩
 have htn:=turnFull hto (by rw [hbi]; omega)
 rw [htn.1]
 exact ⟨(NetS.mk t.n t.hr t.ps t.bi t.lost),vb_t,cb_t,vt_t,ct_t,rfl,⟨hn1_t,hn16_t,ok_t.hl,ok_t.hb,ok_t.okb,ok_t.hkb,ok_t.okt,ok_t.hkt,(show t.bi.length = t.ps.length by first | exact hlen_t | (rw [List.length_eraseIdx,List.length_eraseIdx,hlen_t]) | (simp; omega)),(show t.ps.length ≤ 4096 by first | exact hmax_t | exact Nat.le_trans (List.length_eraseIdx_le ..) hmax_t | (simp; omega)),(show 0 ≤ t.lost by first | exact hl0_t | omega)⟩,htn.2,(((hs8.pick 2 rfl rfl).pick 2 rfl rfl).pick 2 rfl rfl)⟩
 have hp41:¬ ((2:Int) ≤ e34):=of_decide_eq_false hc41
 refine c_cond_f (t:=false) (.tmp rfl (congrArg Value.bool hc41)) rfl ?_
 refine c_skip ?_
 refine n_then ?_
 refine c_seq ?_
 refine c_region ?_
 have hbi:t.bi.getD i.toNat 0 = e34:=by rw [List.getD_eq_getElem?_getD,hx36]; rfl
 obtain ⟨kn,hkn⟩:∃ m:Nat,k = (m:Int):=⟨k.toNat,by omega⟩
 have hs42:St H _ (row 5 1 e13.v e13.bs.length (e13.bs.map encB)::obj g_t 64 (netCells t.n vb_t vt_t t.hr t.lost)::row 37 3 vb_t t.ps.length cb_t::row 3 1 vt_t t.bi.length ct_t::((t.ps.eraseIdx i.toNat).map (pkRes 5) ++ L)):=St.pkOut (rs:=[obj g_t 64 (netCells t.n vb_t vt_t t.hr t.lost),row 37 3 vb_t t.ps.length cb_t,row 3 1 vt_t t.bi.length ct_t]) hs8 hx15
 skip
 refine st (v:=.pointer (some ⟨g_t,0,none⟩)) (x_move (.tmp rfl rfl)) ?_
 refine st (v:=.pointer (some ⟨g_t,0,none⟩)) (x_nilCheck (.tmp rfl rfl)) ?_
 refine st (v:=.pointer (some ⟨g_t,0 + 2,none⟩)) (fa64_2 (.tmp rfl rfl)) ?_
 refine st (v:=vt_t) (ld52 (.tmp rfl rfl) (hs42.cell 1 rfl (0 + 2) rfl)) ?_
 refine st (v:=.int .i64 i) (x_move (.tmp rfl rfl)) ?_
 obtain ⟨g43,c44,hv45⟩:=ok_t.okt.pos (by omega)
 refine st (v:=.pointer (some ⟨g43,(i.toNat * 1),none⟩)) (ixo52 (.tmp rfl hv45) rfl (i:=i) (.tmp rfl rfl) (by omega) (by omega) (by omega)) ?_
 refine st (v:=.int .i64 e34) (ld3 (.tmp rfl rfl) ((hs42.rowAt 3 rfl hv45 (i.toNat * 1) hsub38).cell 0 rfl)) ?_
 refine st (v:=.int .i64 (e34 + 1)) (x_add (k:=.i64) (a:=e34) (b:=1) (.tmp rfl rfl) .const (w64 (by omega) (by omega))) ?_
 obtain ⟨g46,c47,hv48⟩:=ok_t.okt.pos (by omega)
 refine st (v:=.pointer (some ⟨g46,(i.toNat * 1),none⟩)) (ixo52 (.tmp rfl hv48) rfl (i:=i) (.tmp rfl rfl) (by omega) (by omega) (by omega)) ?_
 have hs49:=hs42.p3
 have hl55:i.toNat * 1 + 1 ≤ ct_t.length:=by have h1:=(ok_t.hkt).1; have h2:kI.sz = 1:=rfl; rw [h2] at h1; omega
 have hr54:kI.rep H (e34 + 1) [.int .i64 (e34 + 1)]:=⟨rfl,(show IB (e34 + 1) from ⟨by omega,by omega⟩)⟩
 refine st_m0 (stor3 hs49 hv48 (i:=(i.toNat * 1)) (xs':=splice ct_t (i.toNat * 1) [.int .i64 (e34 + 1)]) (.tmp rfl rfl) (u:=.int .i64 (e34 + 1)) (.tmp rfl rfl) rfl (by omega) one1 rfl) ?_
 rintro w50 hs51
 have hk53:=Kn.rows_set (d:=kI.toKn) ok_t.hkt (i:=i.toNat) (by omega) hr54
 have ok52:=ok_t.okt.splice (i:=i.toNat * 1) (vs:=[.int .i64 (e34 + 1)]) (by simpa using hl55)
 have hn56:(t.bi.set i.toNat (e34 + 1)).length = t.bi.length:=List.length_set
 have ok57:RowOk kI.sz vt_t (t.bi.set i.toNat (e34 + 1)).length (splice ct_t (i.toNat * 1) [.int .i64 (e34 + 1)]):=by rw [hn56]; exact ok52
 have hs58:St H w50 (row 3 1 vt_t ((t.bi.set i.toNat (e34 + 1)).length) (splice ct_t (i.toNat * 1) [.int .i64 (e34 + 1)])::row 5 1 e13.v e13.bs.length (e13.bs.map encB)::obj g_t 64 (netCells t.n vb_t vt_t t.hr t.lost)::row 37 3 vb_t t.ps.length cb_t::((t.ps.eraseIdx i.toNat).map (pkRes 5) ++ L)):=by rw [hn56]; exact hs51
 refine c_nil ?_
 refine n_then ?_
 refine c_seq ?_
 refine s_region (L:=row 3 1 vt_t ((t.bi.set i.toNat (e34 + 1)).length) (splice ct_t (i.toNat * 1) [.int .i64 (e34 + 1)])::row 5 1 e13.v e13.bs.length (e13.bs.map encB)::obj g_t 64 (netCells t.n vb_t vt_t t.hr t.lost)::row 37 3 vb_t t.ps.length cb_t::((t.ps.eraseIdx i.toNat).map (pkRes 5) ++ L)) (L':=row 3 1 vt_t ((t.bi.set i.toNat (e34 + 1)).length) (splice ct_t (i.toNat * 1) [.int .i64 (e34 + 1)])::row 5 1 e13.v e13.bs.length (e13.bs.map encB)::obj g_t 64 (netCells t.n vb_t vt_t t.hr t.lost)::row 37 3 vb_t t.ps.length cb_t::((t.ps.eraseIdx i.toNat).map (pkRes 5) ++ L)) (some 10) [(0,true),(1,true),(2,true),(3,true),(4,true),(5,true),(6,true),(7,true),(8,true),(9,true),(10,false)] mixed hs58 (fun u hu => hu) (by kernel_rfl) ?_
 intro w59 hs60
 refine s_st (k:=0) (v:=e13.v) rfl (fun w hs => (x_move (.tmp rfl rfl))) ?_
 refine s_st (k:=1) (v:=.int .i64 ((kn:Nat):Int)) rfl (fun w hs => (x_move (.tmp rfl (congrArg (Value.int .i64) hkn)))) ?_
 refine s_st (k:=2) (v:=.int .i64 (((kn / 8):Nat):Int)) rfl (fun w hs => (x_quoN (k:=.i64) (m:=kn) (n:=8) (.tmp rfl rfl) .const (by omega) (.inl ⟨by omega,rfl,by omega⟩))) ?_
 obtain ⟨g61,c62,hv63⟩:=ok22.pos (by omega)
 refine s_st (k:=3) (v:=.pointer (some ⟨g61,((kn / 8)),none⟩)) rfl (fun w hs => (ixo22 (.tmp rfl hv63) rfl (i:=(((kn / 8):Nat):Int)) (.tmp rfl rfl) (by omega) (by omega) (by omega))) ?_
 obtain ⟨z64,hz65⟩:∃ x,e13.bs[(kn / 8)]? = some x:=⟨_,List.getElem?_eq_getElem (by omega)⟩
 refine s_st (k:=4) (v:=.int .u8 ((z64:Nat):Int)) rfl (fun w hs => (ld5 (.tmp rfl rfl) (hs.rowEnc (enc:=encB) 1 rfl hv63 (kn / 8) hz65))) ?_
 refine s_st (k:=5) (v:=.int .i64 ((kn:Nat):Int)) rfl (fun w hs => (x_move (.tmp rfl (congrArg (Value.int .i64) hkn)))) ?_
 refine s_st (k:=6) (v:=.int .i64 (((kn % 8):Nat):Int)) rfl (fun w hs => (x_remN (k:=.i64) (m:=kn) (n:=8) (.tmp rfl rfl) .const (by omega))) ?_
 have hb66:(1 * 2 ^ (kn % 8) % 256) < 256:=Nat.mod_lt _ (by decide)
 refine s_st (k:=7) (v:=.int .u8 (((1 * 2 ^ (kn % 8) % 256):Nat):Int)) rfl (fun w hs => (x_shl (k:=.u8) (m:=1) (b:=(((kn % 8):Nat):Int)) rfl .const (.tmp rfl rfl) (by omega))) ?_
 have hb67:(z64 ^^^ (1 * 2 ^ (kn % 8) % 256)) < 256:=Nat.xor_lt_two_pow (n:=8) (sm23 _ (List.mem_of_getElem? hz65)) hb66
 refine s_st (k:=8) (v:=.int .u8 (((z64 ^^^ (1 * 2 ^ (kn % 8) % 256)):Nat):Int)) rfl (fun w hs => (x_xor (k:=.u8) (m:=z64) (n:=(1 * 2 ^ (kn % 8) % 256)) rfl (.tmp rfl rfl) (.tmp rfl rfl) (show _ < 2 ^ 8 from (sm23 _ (List.mem_of_getElem? hz65))) (show _ < 2 ^ 8 from hb66))) ?_
 skip
 obtain ⟨g68,c69,hv70⟩:=ok22.pos (by omega)
 refine s_st (k:=9) (v:=.pointer (some ⟨g68,((kn / 8)),none⟩)) rfl (fun w hs => (ixo22 (.tmp rfl hv70) rfl (i:=(((kn / 8):Nat):Int)) (.tmp rfl rfl) (by omega) (by omega) (by omega))) ?_
 refine s_eff (k:=10) rfl ?_
 have hs71:=hs60.p1
 refine st_m0 (stor5 hs71 hv70 (i:=(kn / 8)) (.tmp rfl rfl) (.tmp rfl rfl) rfl (by simp; omega) one1 (splice_set (by omega))) ?_
 rintro w72 hs73
 have ok74:=ok22.setB (i:=(kn / 8)) (a:=(z64 ^^^ (1 * 2 ^ (kn % 8) % 256)))
 refine s_end ?_
 refine n_then ?_
 refine c_seq ?_
 refine c_region ?_
 refine st (v:=.int .i64 0) (x_assign .const) ?_
 refine c_nil ?_
 refine n_then ?_
 refine c_ret ?_
 refine leave_ret (res_one (v:=.int .i64 0) rfl (.mk rfl rfl)) ?_
 have hto:t.turnOk i k:=⟨hin,by rw [peek_at hin.1 hx15]; exact (show 0 ≤ k∧k < 8 * (e13.bs.length:Int) from ⟨by omega,by omega⟩)⟩
 have hq8:(e13.bs.set (kn / 8) (z64 ^^^ (1 * 2 ^ (kn % 8) % 256))).length = e13.bs.length:=List.length_set
 have hs8:=hs73
 rw [← hq8] at hs8
 have hs75:St H _ (row 3 1 vt_t ((t.bi.set i.toNat (e34 + 1)).length) (splice ct_t (i.toNat * 1) [.int .i64 (e34 + 1)])::obj g_t 64 (netCells t.n vb_t vt_t t.hr t.lost)::row 37 3 vb_t t.ps.length cb_t::((t.ps.set i.toNat (Pk.mk e13.From e13.To e13.v (e13.bs.set (kn / 8) (z64 ^^^ (1 * 2 ^ (kn % 8) % 256))))).map (pkRes 5) ++ L)):=St.pkIn (q:=(Pk.mk e13.From e13.To e13.v (e13.bs.set (kn / 8) (z64 ^^^ (1 * 2 ^ (kn % 8) % 256))))) (rs:=[row 3 1 vt_t ((t.bi.set i.toNat (e34 + 1)).length) (splice ct_t (i.toNat * 1) [.int .i64 (e34 + 1)]),obj g_t 64 (netCells t.n vb_t vt_t t.hr t.lost),row 37 3 vb_t t.ps.length cb_t]) hs8 hx15
 have hln8:(t.ps.set i.toNat (Pk.mk e13.From e13.To e13.v (e13.bs.set (kn / 8) (z64 ^^^ (1 * 2 ^ (kn % 8) % 256))))).length = t.ps.length:=List.length_set
 have hk8:=pk_rows_set (q:=(Pk.mk e13.From e13.To e13.v (e13.bs.set (kn / 8) (z64 ^^^ (1 * 2 ^ (kn % 8) % 256))))) ok_t.hkb hx15 rfl rfl rfl hq8 (sm23.set _ hb67)
 have ok8:=ok_t.okb
 rw [← hln8] at ok8 hs75
 have htn:=turnOk1 hto (by rw [hbi]; omega) hx15
 rw [htn.1]
 exact ⟨(NetS.mk t.n t.hr (t.ps.set i.toNat (Pk.mk e13.From e13.To e13.v (e13.bs.set (kn / 8) (z64 ^^^ (1 * 2 ^ (kn % 8) % 256))))) (t.bi.set i.toNat (e34 + 1)) t.lost),vb_t,cb_t,vt_t,(splice ct_t (i.toNat * 1) [.int .i64 (e34 + 1)]),rfl,⟨hn1_t,hn16_t,ok_t.hl,ok_t.hb,ok8,hk8,ok57,hk53,(show (t.bi.set i.toNat (e34 + 1)).length = (t.ps.set i.toNat (Pk.mk e13.From e13.To e13.v (e13.bs.set (kn / 8) (z64 ^^^ (1 * 2 ^ (kn % 8) % 256))))).length by first | exact hlen_t | (rw [List.length_eraseIdx,List.length_eraseIdx,hlen_t]) | (simp; omega)),(show (t.ps.set i.toNat (Pk.mk e13.From e13.To e13.v (e13.bs.set (kn / 8) (z64 ^^^ (1 * 2 ^ (kn % 8) % 256))))).length ≤ 4096 by first | exact hmax_t | exact Nat.le_trans (List.length_eraseIdx_le ..) hmax_t | (simp; omega)),(show 0 ≤ t.lost by first | exact hl0_t | omega)⟩,(by rw [← htn.2,hbi,show turnB e13.bs k = (e13.bs.set (kn / 8) (z64 ^^^ (1 * 2 ^ (kn % 8) % 256))) from by unfold turnB; rw [show k.toNat = kn by omega,List.getD_eq_getElem?_getD,hz65]; rfl]),((hs75.pick 2 rfl rfl).pick 2 rfl rfl)⟩
end Go.Proofs.YtojlmilkdijiaaaDoor
