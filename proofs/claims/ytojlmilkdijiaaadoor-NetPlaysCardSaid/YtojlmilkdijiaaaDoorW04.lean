/- Steps of the proofs over the functions of this seat, printed by a program (gen.py) and checked by Lean. -/
import Derived.Test.YtojlmilkdijiaaaDoorW01
import Derived.Test.YtojlmilkdijiaaaDoorW00
import Derived.Test.YtojlmilkdijiaaaDoorW03
set_option linter.unusedVariables false
set_option linter.unusedSimpArgs false
namespace Go.Proofs.YtojlmilkdijiaaaDoor
open Go Go.FM Go.Proofs
attribute [local irreducible] wpList wpQuiet wpS Code.wp Calls
set_option maxHeartbeats 8000000 in
theorem awake_spec {H:Hp} {w:World} {L:List Res} (hs:St H w (L)) (htab:Tab H):Calls Tryd.prog 11 #[] w (fun e w' => e = .returned (.bool true)∧St H w' (L)):=by
 refine enter (args:=[]) (N:=42) Tryd.func11 rfl rfl rfl ?_
 refine c_seq ?_
 refine c_region ?_
 refine st (v:=.bool false) (x_assign .const) ?_
 refine c_nil ?_
 refine n_then ?_
 refine c_seq ?_
 refine c_region ?_
 refine st_c cb12 .func (evs1 .const) (new_spec hs 3 ⟨by omega,by omega⟩ (by omega) (by omega)) ?_
 rintro e w1 ⟨g3,vb4,cb5,vt6,ct7,rfl,ok8,hs2⟩
 refine ⟨_,rfl,?_⟩
 refine st (v:=.tuple #[.pointer (some ⟨g3,0,none⟩),.int .i64 0]) (x_move (.tmp rfl rfl)) ?_
 refine st (v:=.pointer (some ⟨g3,0,none⟩)) (x_extract (.tmp rfl rfl) (i:=0) rfl) ?_
 refine st (v:=.int .i64 0) (x_extract (.tmp rfl rfl) (i:=1) rfl) ?_
 refine st (v:=.pointer (some ⟨g3,0,none⟩)) (x_assign (.tmp rfl rfl)) ?_
 refine st (v:=.int .i64 0) (x_assign (.tmp rfl rfl)) ?_
 refine c_nil ?_
 refine n_then ?_
 refine c_seq ?_
 refine c_seq ?_
 refine c_region ?_
 refine st (v:=.int .i64 0) (x_move (.tmp rfl rfl)) ?_
 refine st (v:=.bool false) (x_neq (k:=.i64) (a:=0) (b:=0) (.tmp rfl rfl) .const) ?_
 refine st (v:=.bool false) (x_move (.tmp rfl rfl)) ?_
 refine g_yes (yl (dj:=9) (b:=false) rfl rfl rfl) ?_
 refine st (v:=.pointer (some ⟨g3,0,none⟩)) (x_move (.tmp rfl rfl)) ?_
 refine g_yes (yl (dj:=9) (b:=false) rfl rfl rfl) ?_
 refine st (v:=.bool false) (x_eqlP Tryd.underlying24 (.tmp rfl rfl) .const rfl) ?_
 refine st (v:=.bool false) (x_pick_f (.tmp rfl rfl) (.tmp rfl rfl)) ?_
 refine st (v:=.bool false) (x_move (.tmp rfl rfl)) ?_
 refine g_yes (yl (dj:=13) (b:=false) rfl rfl rfl) ?_
 refine st (v:=.pointer (some ⟨g3,0,none⟩)) (x_move (.tmp rfl rfl)) ?_
 refine g_yes (yl (dj:=13) (b:=false) rfl rfl rfl) ?_
 have hs11:St H _ (netG 64 37 3 5 g3 (netNew 3) vb4 cb5 vt6 ct7 (L)):=St.netUp [] hs2
 refine st_c cb13 .func (evs3 (.tmp rfl rfl) .const .const) (cut_spec hs11 ok8 0 ⟨by omega,by omega⟩ 1 ⟨by omega,by omega⟩ ) ?_
 rintro e w12 ⟨vb14,cb15,vt16,ct17,rfl,ok18,hs13⟩
 refine ⟨_,rfl,?_⟩
 have hs19:St H _ (netG 64 37 3 5 g3 (NetS.setH wto (netNew 3) 0 1) vb14 cb15 vt16 ct17 (L)):=St.netDown [] hs13
 refine g_yes (yl (dj:=13) (b:=false) rfl rfl rfl) ?_
 refine st (v:=.bool (decide (((if (netNew 3).setE 0 1 = true then 0 else 1):Int) ≠ 0))) (x_neq (k:=.i64) (a:=(if (netNew 3).setE 0 1 = true then 0 else 1)) (b:=0) (.tmp rfl rfl) .const) ?_
 refine st (v:=.bool (decide (((if (netNew 3).setE 0 1 = true then 0 else 1):Int) ≠ 0))) (x_pick_f (.tmp rfl rfl) (.tmp rfl rfl)) ?_
 refine st (v:=.bool (decide (((if (netNew 3).setE 0 1 = true then 0 else 1):Int) ≠ 0))) (x_move (.tmp rfl rfl)) ?_
 have hc20:(decide (((if (netNew 3).setE 0 1 = true then 0 else 1):Int) ≠ 0)) = false:=(by decide +kernel)
 refine g_yes (yl (dj:=18) (b:=false) rfl rfl (congrArg Value.bool hc20)) ?_
 refine st (v:=.pointer (some ⟨g3,0,none⟩)) (x_move (.tmp rfl rfl)) ?_
 refine g_yes (yl (dj:=18) (b:=false) rfl rfl (congrArg Value.bool hc20)) ?_
 have hs21:St H _ (netG 64 37 3 5 g3 (NetS.setH wto (netNew 3) 0 1) vb14 cb15 vt16 ct17 (L)):=St.netUp [] hs19
 refine st_c cb14 .func (evs2 (.tmp rfl rfl) .const) (class_spec hs21 ok18 2 ⟨by omega,by omega⟩ htab) ?_
 rintro e w22 ⟨rfl,hs23⟩
 refine ⟨_,rfl,?_⟩
 have hs24:St H _ (netG 64 37 3 5 g3 (NetS.setH wto (netNew 3) 0 1) vb14 cb15 vt16 ct17 (L)):=St.netDown [] hs23
 refine g_yes (yl (dj:=18) (b:=false) rfl rfl (congrArg Value.bool hc20)) ?_
 refine st (v:=.bool (decide ((((((NetS.setH wto (netNew 3) 0 1).cls 2):Nat):Int):Int) ≠ 0))) (x_neq (k:=.u16) (a:=((((NetS.setH wto (netNew 3) 0 1).cls 2):Nat):Int)) (b:=0) (.tmp rfl rfl) .const) ?_
 refine st (v:=.bool (decide ((((((NetS.setH wto (netNew 3) 0 1).cls 2):Nat):Int):Int) ≠ 0))) (x_pick_f (.tmp rfl (congrArg Value.bool hc20)) (.tmp rfl rfl)) ?_
 refine st (v:=.bool (decide ((((((NetS.setH wto (netNew 3) 0 1).cls 2):Nat):Int):Int) ≠ 0))) (x_move (.tmp rfl rfl)) ?_
 have hc25:(decide ((((((NetS.setH wto (netNew 3) 0 1).cls 2):Nat):Int):Int) ≠ 0)) = false:=(by decide +kernel)
 refine g_yes (yl (dj:=23) (b:=false) rfl rfl (congrArg Value.bool hc25)) ?_
 refine st (v:=.pointer (some ⟨g3,0,none⟩)) (x_move (.tmp rfl rfl)) ?_
 refine g_yes (yl (dj:=23) (b:=false) rfl rfl (congrArg Value.bool hc25)) ?_
 have hs26:St H _ (netG 64 37 3 5 g3 (NetS.setH wto (netNew 3) 0 1) vb14 cb15 vt16 ct17 (L)):=St.netUp [] hs24
 refine st_c cb13 .func (evs3 (.tmp rfl rfl) .const .const) (cut_spec hs26 ok18 0 ⟨by omega,by omega⟩ 2 ⟨by omega,by omega⟩ ) ?_
 rintro e w27 ⟨vb29,cb30,vt31,ct32,rfl,ok33,hs28⟩
 refine ⟨_,rfl,?_⟩
 have hs34:St H _ (netG 64 37 3 5 g3 (NetS.setH wto (NetS.setH wto (netNew 3) 0 1) 0 2) vb29 cb30 vt31 ct32 (L)):=St.netDown [] hs28
 refine g_yes (yl (dj:=23) (b:=false) rfl rfl (congrArg Value.bool hc25)) ?_
 refine st (v:=.bool (decide (((if (NetS.setH wto (netNew 3) 0 1).setE 0 2 = true then 0 else 1):Int) ≠ 0))) (x_neq (k:=.i64) (a:=(if (NetS.setH wto (netNew 3) 0 1).setE 0 2 = true then 0 else 1)) (b:=0) (.tmp rfl rfl) .const) ?_
 refine st (v:=.bool (decide (((if (NetS.setH wto (netNew 3) 0 1).setE 0 2 = true then 0 else 1):Int) ≠ 0))) (x_pick_f (.tmp rfl (congrArg Value.bool hc25)) (.tmp rfl rfl)) ?_
 refine c_nil ?_
 refine n_then ?_
 have hc35:(decide (((if (NetS.setH wto (netNew 3) 0 1).setE 0 2 = true then 0 else 1):Int) ≠ 0)) = false:=(by decide +kernel)
 refine c_cond_f (t:=false) (.tmp rfl (congrArg Value.bool hc35)) rfl ?_
 refine c_skip ?_
 refine n_then ?_
 refine c_seq ?_
 refine c_region ?_
 refine st (v:=.pointer (some ⟨g3,0,none⟩)) (x_move (.tmp rfl rfl)) ?_
 have hs36:St H _ (netG 64 37 3 5 g3 (NetS.setH wto (NetS.setH wto (netNew 3) 0 1) 0 2) vb29 cb30 vt31 ct32 (L)):=St.netUp [] hs34
 refine st_c cb14 .func (evs2 (.tmp rfl rfl) .const) (class_spec hs36 ok33 2 ⟨by omega,by omega⟩ htab) ?_
 rintro e w37 ⟨rfl,hs38⟩
 refine ⟨_,rfl,?_⟩
 have hs39:St H _ (netG 64 37 3 5 g3 (NetS.setH wto (NetS.setH wto (netNew 3) 0 1) 0 2) vb29 cb30 vt31 ct32 (L)):=St.netDown [] hs38
 refine st (v:=.bool (decide ((((((NetS.setH wto (NetS.setH wto (netNew 3) 0 1) 0 2).cls 2):Nat):Int):Int) = 6))) (x_eql (k:=.u16) (a:=((((NetS.setH wto (NetS.setH wto (netNew 3) 0 1) 0 2).cls 2):Nat):Int)) (b:=6) (.tmp rfl rfl) .const) ?_
 refine st (v:=.bool (decide ((((((NetS.setH wto (NetS.setH wto (netNew 3) 0 1) 0 2).cls 2):Nat):Int):Int) = 6))) (x_move (.tmp rfl rfl)) ?_
 have hc40:(decide ((((((NetS.setH wto (NetS.setH wto (netNew 3) 0 1) 0 2).cls 2):Nat):Int):Int) = 6)) = true:=(by decide +kernel)
 refine g_yes (yl (dj:=31) (b:=true) rfl rfl (congrArg Value.bool hc40)) ?_
 refine st (v:=.pointer (some ⟨g3,0,none⟩)) (x_move (.tmp rfl rfl)) ?_
 refine g_yes (yl (dj:=31) (b:=true) rfl rfl (congrArg Value.bool hc40)) ?_
 refine st (v:=.agg #[.int .i64 0,.int .i64 2,.slice none 0 0]) (bl37 (ps:=[(1,.int .i64 2)]) (.cons .const Evp.nil) rfl) ?_
 refine g_yes (yl (dj:=31) (b:=true) rfl rfl (congrArg Value.bool hc40)) ?_
 have hs41:St H _ (netG 64 37 3 5 g3 (NetS.setH wto (NetS.setH wto (netNew 3) 0 1) 0 2) vb29 cb30 vt31 ct32 (L)):=St.netUp [] hs39
 have hr42:kPacket.rep H (GPacket.mk 0 2 []) [.int .i64 0,.int .i64 2,.slice none 0 0]:=⟨none,0,0,rfl,(show IB 0 from ⟨by omega,by omega⟩),(show IB 2 from ⟨by omega,by omega⟩),(By.nil _ none)⟩
 refine st_c cb17 .func (evs2 (.tmp rfl rfl) (.tmp rfl rfl)) (Put_spec hs41 ok33 (GPacket.mk 0 2 []) hr42 (by decide +kernel)) ?_
 rintro e w43 ⟨nt50,vb45,cb46,vt47,ct48,v_52,rfl,ok49,hnt51,hs44⟩
 refine ⟨_,rfl,?_⟩
 have hs53:St H _ (netG 64 37 3 5 g3 nt50 vb45 cb46 vt47 ct48 (L)):=St.netDown [] hs44
 refine g_yes (yl (dj:=31) (b:=true) rfl rfl (congrArg Value.bool hc40)) ?_
 refine st (v:=.bool (decide ((((NetS.setH wto (NetS.setH wto (netNew 3) 0 1) 0 2).putE (GPacket.mk 0 2 []).From (GPacket.mk 0 2 []).To):Int) = 0))) (x_eql (k:=.i64) (a:=((NetS.setH wto (NetS.setH wto (netNew 3) 0 1) 0 2).putE (GPacket.mk 0 2 []).From (GPacket.mk 0 2 []).To)) (b:=0) (.tmp rfl rfl) .const) ?_
 refine st (v:=.bool (decide ((((NetS.setH wto (NetS.setH wto (netNew 3) 0 1) 0 2).putE (GPacket.mk 0 2 []).From (GPacket.mk 0 2 []).To):Int) = 0))) (x_pick_t (.tmp rfl (congrArg Value.bool hc40)) (.tmp rfl rfl)) ?_
 refine st (v:=.bool (decide ((((NetS.setH wto (NetS.setH wto (netNew 3) 0 1) 0 2).putE (GPacket.mk 0 2 []).From (GPacket.mk 0 2 []).To):Int) = 0))) (x_move (.tmp rfl rfl)) ?_
 have hc54:(decide ((((NetS.setH wto (NetS.setH wto (netNew 3) 0 1) 0 2).putE (GPacket.mk 0 2 []).From (GPacket.mk 0 2 []).To):Int) = 0)) = true:=(by decide +kernel)
 refine g_yes (yl (dj:=37) (b:=true) rfl rfl (congrArg Value.bool hc54)) ?_
 refine st (v:=.pointer (some ⟨g3,0,none⟩)) (x_move (.tmp rfl rfl)) ?_
 refine g_yes (yl (dj:=37) (b:=true) rfl rfl (congrArg Value.bool hc54)) ?_
 have hs55:St H _ (netG 64 37 3 5 g3 nt50 vb45 cb46 vt47 ct48 (L)):=St.netUp [] hs53
 refine st_c cb18 .func (evs1 (.tmp rfl rfl)) (len_spec hs55 ok49 ) ?_
 rintro e w56 ⟨rfl,hs57⟩
 refine ⟨_,rfl,?_⟩
 have hs58:St H _ (netG 64 37 3 5 g3 nt50 vb45 cb46 vt47 ct48 (L)):=St.netDown [] hs57
 refine g_yes (yl (dj:=37) (b:=true) rfl rfl (congrArg Value.bool hc54)) ?_
 refine st (v:=.bool (decide ((((nt50.ps.length:Nat):Int):Int) = 1))) (x_eql (k:=.i64) (a:=((nt50.ps.length:Nat):Int)) (b:=1) (.tmp rfl rfl) .const) ?_
 refine st (v:=.bool (decide ((((nt50.ps.length:Nat):Int):Int) = 1))) (x_pick_t (.tmp rfl (congrArg Value.bool hc54)) (.tmp rfl rfl)) ?_
 refine st (v:=.bool (decide ((((nt50.ps.length:Nat):Int):Int) = 1))) (x_assign (.tmp rfl rfl)) ?_
 refine c_nil ?_
 refine n_then ?_
 refine c_ret ?_
 refine leave_ret (res_one (v:=.bool (decide ((((nt50.ps.length:Nat):Int):Int) = 1))) rfl (.mk rfl rfl)) ?_
 have hyes:(decide ((((nt50.ps.length:Nat):Int):Int) = 1)) = true:=(decide_eq_true (by rw [hnt51,putS_len (by decide +kernel) (by decide +kernel) (by decide +kernel)]; decide +kernel))
 rw [hyes]
 exact ⟨rfl,hs58.netDrop⟩
end Go.Proofs.YtojlmilkdijiaaaDoor
