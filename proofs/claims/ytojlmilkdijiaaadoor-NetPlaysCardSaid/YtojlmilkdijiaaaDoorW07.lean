/- Steps of the proofs over the functions of this seat, printed by a program (gen.py) and checked by Lean. -/
import Derived.Test.YtojlmilkdijiaaaDoorW01
import Derived.Test.YtojlmilkdijiaaaDoorW00
import Derived.Test.YtojlmilkdijiaaaDoorW06
set_option linter.unusedVariables false
set_option linter.unusedSimpArgs false
namespace Go.Proofs.YtojlmilkdijiaaaDoor
open Go Go.FM Go.Proofs
attribute [local irreducible] wpList wpQuiet wpS Code.wp Calls
set_option maxHeartbeats 8000000 in
theorem do_spec {H:Hp} {w:World} {L:List Res} {g_t:Nat} {t:NetS} {vb_t:Value} {cb_t:List Value} {vt_t:Value} {ct_t:List Value}  {g_m:Nat} {m:RS} {vb_m:Value} {cb_m:List Value} {vt_m:Value} {ct_m:List Value} {c:Int} (hs:St H w (netG 64 37 3 5 g_t t vb_t cb_t vt_t ct_t (obj g_m 56 (rCells m.n vb_m vt_m m.df m.lost)::row 37 3 vb_m m.ps.length cb_m::row 3 1 vt_m m.bi.length ct_m::(m.pks 5) ++ (L)))) (ok_t:NetOk H t vb_t cb_t vt_t ct_t) (ok_m:RSOk H m vb_m cb_m vt_m ct_m) (a:GAct) {k_a:List Value} (h_a:kAct.rep H a k_a) (hrel:NRel t m c) (hc:c ≤ 1000000):Calls Tryd.prog 25 #[.pointer (some ⟨g_t,0,none⟩),.pointer (some ⟨g_m,0,none⟩),.agg k_a.toArray] w (fun e w' => ∃ (H':Hp) (t':NetS) (vb_t':Value) (cb_t':List Value) (vt_t':Value) (ct_t':List Value) (m':RS) (vb_m':Value) (cb_m':List Value) (vt_m':Value) (ct_m':List Value),H.le H'∧e = .returned (.bool true)∧NetOk H' t' vb_t' cb_t' vt_t' ct_t'∧RSOk H' m' vb_m' cb_m' vt_m' ct_m'∧NRel t' m' (c + 1)∧St H' w' (netG 64 37 3 5 g_t t' vb_t' cb_t' vt_t' ct_t' (obj g_m 56 (rCells m'.n vb_m' vt_m' m'.df m'.lost)::row 37 3 vb_m' m'.ps.length cb_m'::row 3 1 vt_m' m'.bi.length ct_m'::(m'.pks 5) ++ (L)))):=by
 have hn1_m:=ok_m.n1
 have hn16_m:=ok_m.n16
 have hlen_m:=ok_m.len
 have hmax_m:=ok_m.max
 have hl0_m:=ok_m.l0
 obtain ⟨A6,n7,c8,rfl,b1,⟨b2,b3⟩,⟨b4,b5⟩,hy9⟩:=h_a
 have:=hy9.len; have:=hy9.bnd; have:=hy9.le
 refine enter (args:=[.pointer (some ⟨g_t,0,none⟩),.pointer (some ⟨g_m,0,none⟩),.agg #[.int .u8 ((a.Kind:Nat):Int),.int .i64 a.I,.int .i64 a.K,.slice A6 n7 c8]]) (N:=168) Tryd.func25 rfl rfl rfl ?_
 have hs10:St H _ (obj g_m 56 (rCells m.n vb_m vt_m m.df m.lost)::row 37 3 vb_m m.ps.length cb_m::row 3 1 vt_m m.bi.length ct_m::netG 64 37 3 5 g_t t vb_t cb_t vt_t ct_t ((m.pks 5) ++ (L))):=St.netDown [obj g_m 56 (rCells m.n vb_m vt_m m.df m.lost),row 37 3 vb_m m.ps.length cb_m,row 3 1 vt_m m.bi.length ct_m] hs
 have hn1_m:=ok_m.n1
 refine c_seq ?_
 refine c_region ?_
 refine st_m (m_box (cs:=[.int .u8 ((a.Kind:Nat):Int),.int .i64 a.I,.int .i64 a.K,.slice A6 n7 c8]) hs10 (v:=.agg #[.int .u8 ((a.Kind:Nat):Int),.int .i64 a.I,.int .i64 a.K,.slice A6 n7 c8]) (.tmp rfl rfl) rfl) ?_
 rintro _ w12 ⟨g11,rfl,hs14⟩
 refine st (v:=.bool false) (x_assign .const) ?_
 refine c_nil ?_
 refine n_then ?_
 refine c_seq ?_
 refine c_seq ?_
 refine c_region ?_
 refine st (v:=.pointer (some ⟨g11,0 + 0,none⟩)) (fa58_0 (.tmp rfl rfl)) ?_
 refine st (v:=.int .u8 ((a.Kind:Nat):Int)) (ld5 (.tmp rfl rfl) (hs14.cell 0 rfl (0 + 0) rfl)) ?_
 refine st (v:=.int .u8 (((a.Kind % 11):Nat):Int)) (x_remN (k:=.u8) (m:=a.Kind) (n:=11) (.tmp rfl rfl) .const (by omega)) ?_
 refine c_nil ?_
 refine n_then ?_
 refine c_block ?_
 refine c_seq ?_
 refine c_seq ?_
 refine c_region ?_
 refine st (v:=.bool (decide (((((a.Kind % 11):Nat):Int):Int) = 0))) (x_eql (k:=.u8) (a:=(((a.Kind % 11):Nat):Int)) (b:=0) (.tmp rfl rfl) .const) ?_
 refine st (v:=.bool (decide (((((a.Kind % 11):Nat):Int):Int) = 0))) (x_assign (.tmp rfl rfl)) ?_
 refine c_nil ?_
 refine n_then ?_
 rcases Bool.eq_false_or_eq_true (decide (((((a.Kind % 11):Nat):Int):Int) = 0)) with hc15 | hc15
 have hp15:((((a.Kind % 11):Nat):Int):Int) = 0:=of_decide_eq_true hc15
 refine c_cond_t (t:=true) (.tmp rfl (congrArg Value.bool hc15)) rfl ?_
 refine c_skip ?_
 refine n_then ?_
 refine c_cond_t (t:=true) (.tmp rfl (congrArg Value.bool hc15)) rfl ?_
 refine c_seq ?_
 refine c_region ?_
 refine st (v:=.pointer (some ⟨g11,0 + 1,none⟩)) (fa58_1 (.tmp rfl rfl)) ?_
 refine st (v:=.int .i64 a.I) (ld3 (.tmp rfl rfl) (hs14.cell 0 rfl (0 + 1) rfl)) ?_
 refine st (v:=.pointer (some ⟨g11,0 + 2,none⟩)) (fa58_2 (.tmp rfl rfl)) ?_
 refine st (v:=.int .i64 a.K) (ld3 (.tmp rfl rfl) (hs14.cell 0 rfl (0 + 2) rfl)) ?_
 refine st (v:=.pointer (some ⟨g11,0 + 3,none⟩)) (fa58_3 (.tmp rfl rfl)) ?_
 refine st (v:=.slice A6 n7 c8) (ld22 (.tmp rfl rfl) (hs14.cell 0 rfl (0 + 3) rfl)) ?_
 refine st (v:=.agg #[.int .i64 a.I,.int .i64 a.K,.slice A6 n7 c8]) (bl37 (ps:=[(0,.int .i64 a.I),(1,.int .i64 a.K),(2,.slice A6 n7 c8)]) (.cons (.tmp rfl rfl) (.cons (.tmp rfl rfl) (.cons (.tmp rfl rfl) Evp.nil))) rfl) ?_
 refine st_m (al37 (cs:=[.int .i64 0,.int .i64 0,.slice none 0 0]) hs14 rfl) ?_
 rintro _ w17 ⟨g16,rfl,hs19⟩
 refine st_m0 (sto37 (cs':=[.int .i64 a.I,.int .i64 a.K,.slice A6 n7 c8]) (i:=0) hs19 (v:=.agg #[.int .i64 a.I,.int .i64 a.K,.slice A6 n7 c8]) (.tmp rfl rfl) (.tmp rfl rfl) rfl (Nat.le_of_ble_eq_true rfl) (oneA rfl) rfl) ?_
 rintro w20 hs22
 refine c_nil ?_
 refine n_then ?_
 refine c_seq ?_
 refine s_region (L:=obj g16 37 [.int .i64 a.I,.int .i64 a.K,.slice A6 n7 c8]::obj g11 58 [.int .u8 ((a.Kind:Nat):Int),.int .i64 a.I,.int .i64 a.K,.slice A6 n7 c8]::obj g_m 56 (rCells m.n vb_m vt_m m.df m.lost)::row 37 3 vb_m m.ps.length cb_m::row 3 1 vt_m m.bi.length ct_m::netG 64 37 3 5 g_t t vb_t cb_t vt_t ct_t ((m.pks 5) ++ (L))) (L':=obj g16 37 [.int .i64 a.I,.int .i64 a.K,.slice A6 n7 c8]::obj g11 58 [.int .u8 ((a.Kind:Nat):Int),.int .i64 a.I,.int .i64 a.K,.slice A6 n7 c8]::L) none [(0,true),(1,true),(3,true),(4,true),(2,false),(5,false),(6,true),(7,true)] mixed hs22 (fun u hu => ((((St.dropG [obj g16 37 [.int .i64 a.I,.int .i64 a.K,.slice A6 n7 c8],obj g11 58 [.int .u8 ((a.Kind:Nat):Int),.int .i64 a.I,.int .i64 a.K,.slice A6 n7 c8],obj g_m 56 (rCells m.n vb_m vt_m m.df m.lost),row 37 3 vb_m m.ps.length cb_m,row 3 1 vt_m m.bi.length ct_m] ((St.netUp [obj g16 37 [.int .i64 a.I,.int .i64 a.K,.slice A6 n7 c8],obj g11 58 [.int .u8 ((a.Kind:Nat):Int),.int .i64 a.I,.int .i64 a.K,.slice A6 n7 c8],obj g_m 56 (rCells m.n vb_m vt_m m.df m.lost),row 37 3 vb_m m.ps.length cb_m,row 3 1 vt_m m.bi.length ct_m] hu).netDrop)).pick 2 rfl rfl).drop.pick 2 rfl rfl).drop.pick 2 rfl rfl).drop) (by kernel_rfl) ?_
 intro w23 hs24
 refine s_st (k:=0) (v:=.pointer (some ⟨g_t,0,none⟩)) rfl (fun w hs => (x_move (.tmp rfl rfl))) ?_
 refine s_st (k:=1) (v:=.agg #[.int .i64 a.I,.int .i64 a.K,.slice A6 n7 c8]) rfl (fun w hs => (ld37 (cs:=[.int .i64 a.I,.int .i64 a.K,.slice A6 n7 c8]) (.tmp rfl rfl) (hs.at_ 0 rfl (0) rfl) rfl)) ?_
 refine s_st (k:=3) (v:=.pointer (some ⟨g_m,0,none⟩)) rfl (fun w hs => (x_move (.tmp rfl rfl))) ?_
 refine s_st (k:=4) (v:=.agg #[.int .i64 a.I,.int .i64 a.K,.slice A6 n7 c8]) rfl (fun w hs => (ld37 (cs:=[.int .i64 a.I,.int .i64 a.K,.slice A6 n7 c8]) (.tmp rfl rfl) (hs.at_ 0 rfl (0) rfl) rfl)) ?_
 refine s_eff (k:=2) rfl ?_
 have hs25:St H _ (netG 64 37 3 5 g_t t vb_t cb_t vt_t ct_t (obj g16 37 [.int .i64 a.I,.int .i64 a.K,.slice A6 n7 c8]::obj g11 58 [.int .u8 ((a.Kind:Nat):Int),.int .i64 a.I,.int .i64 a.K,.slice A6 n7 c8]::obj g_m 56 (rCells m.n vb_m vt_m m.df m.lost)::row 37 3 vb_m m.ps.length cb_m::row 3 1 vt_m m.bi.length ct_m::(m.pks 5) ++ (L))):=St.netUp [obj g16 37 [.int .i64 a.I,.int .i64 a.K,.slice A6 n7 c8],obj g11 58 [.int .u8 ((a.Kind:Nat):Int),.int .i64 a.I,.int .i64 a.K,.slice A6 n7 c8],obj g_m 56 (rCells m.n vb_m vt_m m.df m.lost),row 37 3 vb_m m.ps.length cb_m,row 3 1 vt_m m.bi.length ct_m] hs24
 have hr26:kPacket.rep H (GPacket.mk a.I a.K a.P) [.int .i64 a.I,.int .i64 a.K,.slice A6 n7 c8]:=⟨A6,n7,c8,rfl,⟨b2,b3⟩,⟨b4,b5⟩,hy9⟩
 refine st_c cb17 .func (evs2 (.tmp rfl rfl) (.tmp rfl rfl)) (Put_spec hs25 ok_t (GPacket.mk a.I a.K a.P) hr26 (by have:=hrel.lc; have:=hrel.lost; omega)) ?_
 rintro e w27 ⟨nt34,vb29,cb30,vt31,ct32,v_36,rfl,ok33,hnt35,hs28⟩
 refine ⟨_,rfl,?_⟩
 have hs37:St H _ (obj g16 37 [.int .i64 a.I,.int .i64 a.K,.slice A6 n7 c8]::obj g11 58 [.int .u8 ((a.Kind:Nat):Int),.int .i64 a.I,.int .i64 a.K,.slice A6 n7 c8]::obj g_m 56 (rCells m.n vb_m vt_m m.df m.lost)::row 37 3 vb_m m.ps.length cb_m::row 3 1 vt_m m.bi.length ct_m::netG 64 37 3 5 g_t nt34 vb29 cb30 vt31 ct32 ((m.pks 5) ++ (L))):=St.netDown [obj g16 37 [.int .i64 a.I,.int .i64 a.K,.slice A6 n7 c8],obj g11 58 [.int .u8 ((a.Kind:Nat):Int),.int .i64 a.I,.int .i64 a.K,.slice A6 n7 c8],obj g_m 56 (rCells m.n vb_m vt_m m.df m.lost),row 37 3 vb_m m.ps.length cb_m,row 3 1 vt_m m.bi.length ct_m] hs28
 refine s_on (S':=fun u => St H u (obj g16 37 [.int .i64 a.I,.int .i64 a.K,.slice A6 n7 c8]::obj g11 58 [.int .u8 ((a.Kind:Nat):Int),.int .i64 a.I,.int .i64 a.K,.slice A6 n7 c8]::L)) (fun u hu => hu) ((((St.dropG [obj g16 37 [.int .i64 a.I,.int .i64 a.K,.slice A6 n7 c8],obj g11 58 [.int .u8 ((a.Kind:Nat):Int),.int .i64 a.I,.int .i64 a.K,.slice A6 n7 c8],obj g_m 56 (rCells m.n vb_m vt_m m.df m.lost),row 37 3 vb_m m.ps.length cb_m,row 3 1 vt_m m.bi.length ct_m] ((St.netUp [obj g16 37 [.int .i64 a.I,.int .i64 a.K,.slice A6 n7 c8],obj g11 58 [.int .u8 ((a.Kind:Nat):Int),.int .i64 a.I,.int .i64 a.K,.slice A6 n7 c8],obj g_m 56 (rCells m.n vb_m vt_m m.df m.lost),row 37 3 vb_m m.ps.length cb_m,row 3 1 vt_m m.bi.length ct_m] hs37).netDrop)).pick 2 rfl rfl).drop.pick 2 rfl rfl).drop.pick 2 rfl rfl).drop ?_
 refine s_eff (k:=5) rfl ?_
 have hs38:St H _ (row 3 1 vt_m m.bi.length ct_m::obj g16 37 [.int .i64 a.I,.int .i64 a.K,.slice A6 n7 c8]::obj g11 58 [.int .u8 ((a.Kind:Nat):Int),.int .i64 a.I,.int .i64 a.K,.slice A6 n7 c8]::obj g_m 56 (rCells m.n vb_m vt_m m.df m.lost)::row 37 3 vb_m m.ps.length cb_m::netG 64 37 3 5 g_t nt34 vb29 cb30 vt31 ct32 ((m.pks 5) ++ (L))):=hs37.pick 4 rfl rfl
 have hs39:St H _ (row 37 3 vb_m m.ps.length cb_m::row 3 1 vt_m m.bi.length ct_m::obj g16 37 [.int .i64 a.I,.int .i64 a.K,.slice A6 n7 c8]::obj g11 58 [.int .u8 ((a.Kind:Nat):Int),.int .i64 a.I,.int .i64 a.K,.slice A6 n7 c8]::obj g_m 56 (rCells m.n vb_m vt_m m.df m.lost)::netG 64 37 3 5 g_t nt34 vb29 cb30 vt31 ct32 ((m.pks 5) ++ (L))):=hs38.pick 4 rfl rfl
 have hs40:St H _ (obj g_m 56 (rCells m.n vb_m vt_m m.df m.lost)::row 37 3 vb_m m.ps.length cb_m::row 3 1 vt_m m.bi.length ct_m::obj g16 37 [.int .i64 a.I,.int .i64 a.K,.slice A6 n7 c8]::obj g11 58 [.int .u8 ((a.Kind:Nat):Int),.int .i64 a.I,.int .i64 a.K,.slice A6 n7 c8]::netG 64 37 3 5 g_t nt34 vb29 cb30 vt31 ct32 ((m.pks 5) ++ (L))):=hs39.pick 4 rfl rfl
 have hr41:kPacket.rep H (GPacket.mk a.I a.K a.P) [.int .i64 a.I,.int .i64 a.K,.slice A6 n7 c8]:=⟨A6,n7,c8,rfl,⟨b2,b3⟩,⟨b4,b5⟩,hy9⟩
 refine st_c cb40 .func (evs2 (.tmp rfl rfl) (.tmp rfl rfl)) (rPut_spec hs40 (m:=m) (RSOk.any ok_m) (GPacket.mk a.I a.K a.P) hr41 (by have:=hrel.lc; omega)) ?_
 rintro e w42 ⟨nr44,vb45,cb46,vt47,ct48,v_51,rfl,ok49,hnr50,hs43⟩
 refine ⟨_,rfl,?_⟩
 have hn1_m:=ok49.n1
 have hn16_m:=ok49.n16
 have hlen_m:=ok49.len
 have hmax_m:=ok49.max
 have hl0_m:=ok49.l0
 have hs52:St H _ (obj g_m 56 (rCells nr44.n vb45 vt47 nr44.df nr44.lost)::row 37 3 vb45 nr44.ps.length cb46::row 3 1 vt47 nr44.bi.length ct48::obj g16 37 [.int .i64 a.I,.int .i64 a.K,.slice A6 n7 c8]::obj g11 58 [.int .u8 ((a.Kind:Nat):Int),.int .i64 a.I,.int .i64 a.K,.slice A6 n7 c8]::(m.putR 5 (GPacket.mk a.I a.K a.P).From (GPacket.mk a.I a.K a.P).To (GPacket.mk a.I a.K a.P).Bytes v_51) ++ (netG 64 37 3 5 g_t nt34 vb29 cb30 vt31 ct32 ((m.pks 5) ++ (L)))):=St.xDown [obj g_m 56 (rCells nr44.n vb45 vt47 nr44.df nr44.lost),row 37 3 vb45 nr44.ps.length cb46,row 3 1 vt47 nr44.bi.length ct48] [obj g16 37 [.int .i64 a.I,.int .i64 a.K,.slice A6 n7 c8],obj g11 58 [.int .u8 ((a.Kind:Nat):Int),.int .i64 a.I,.int .i64 a.K,.slice A6 n7 c8]] hs43
 refine s_on (S':=fun u => St H u (obj g16 37 [.int .i64 a.I,.int .i64 a.K,.slice A6 n7 c8]::obj g11 58 [.int .u8 ((a.Kind:Nat):Int),.int .i64 a.I,.int .i64 a.K,.slice A6 n7 c8]::L)) (fun u hu => hu) (St.dropG [obj g_m 56 (rCells nr44.n vb45 vt47 nr44.df nr44.lost),row 37 3 vb45 nr44.ps.length cb46,row 3 1 vt47 nr44.bi.length ct48,obj g16 37 [.int .i64 a.I,.int .i64 a.K,.slice A6 n7 c8],obj g11 58 [.int .u8 ((a.Kind:Nat):Int),.int .i64 a.I,.int .i64 a.K,.slice A6 n7 c8]] ((St.netUp [obj g_m 56 (rCells nr44.n vb45 vt47 nr44.df nr44.lost),row 37 3 vb45 nr44.ps.length cb46,row 3 1 vt47 nr44.bi.length ct48,obj g16 37 [.int .i64 a.I,.int .i64 a.K,.slice A6 n7 c8],obj g11 58 [.int .u8 ((a.Kind:Nat):Int),.int .i64 a.I,.int .i64 a.K,.slice A6 n7 c8]] (St.dropG [obj g_m 56 (rCells nr44.n vb45 vt47 nr44.df nr44.lost),row 37 3 vb45 nr44.ps.length cb46,row 3 1 vt47 nr44.bi.length ct48,obj g16 37 [.int .i64 a.I,.int .i64 a.K,.slice A6 n7 c8],obj g11 58 [.int .u8 ((a.Kind:Nat):Int),.int .i64 a.I,.int .i64 a.K,.slice A6 n7 c8]] hs52)).netDrop)).drop.drop.drop ?_
 have hs53:St H _ (obj g_m 56 (rCells nr44.n vb45 vt47 nr44.df nr44.lost)::row 37 3 vb45 nr44.ps.length cb46::row 3 1 vt47 nr44.bi.length ct48::obj g16 37 [.int .i64 a.I,.int .i64 a.K,.slice A6 n7 c8]::obj g11 58 [.int .u8 ((a.Kind:Nat):Int),.int .i64 a.I,.int .i64 a.K,.slice A6 n7 c8]::netG 64 37 3 5 g_t nt34 vb29 cb30 vt31 ct32 (((m.putS a.I a.K a.P 0 v_51).pks 5) ++ (L))):=St.intoG [obj g_m 56 (rCells nr44.n vb45 vt47 nr44.df nr44.lost),row 37 3 vb45 nr44.ps.length cb46,row 3 1 vt47 nr44.bi.length ct48,obj g16 37 [.int .i64 a.I,.int .i64 a.K,.slice A6 n7 c8],obj g11 58 [.int .u8 ((a.Kind:Nat):Int),.int .i64 a.I,.int .i64 a.K,.slice A6 n7 c8]] hs52 put_pks
 skip
 refine s_st (k:=6) (v:=.bool (decide (((t.putE (GPacket.mk a.I a.K a.P).From (GPacket.mk a.I a.K a.P).To):Int) = (m.putE (GPacket.mk a.I a.K a.P).From (GPacket.mk a.I a.K a.P).To)))) rfl (fun w hs => (x_eql (k:=.i64) (a:=(t.putE (GPacket.mk a.I a.K a.P).From (GPacket.mk a.I a.K a.P).To)) (b:=(m.putE (GPacket.mk a.I a.K a.P).From (GPacket.mk a.I a.K a.P).To)) (.tmp rfl rfl) (.tmp rfl rfl))) ?_
 refine s_st (k:=7) (v:=.bool (decide (((t.putE (GPacket.mk a.I a.K a.P).From (GPacket.mk a.I a.K a.P).To):Int) = (m.putE (GPacket.mk a.I a.K a.P).From (GPacket.mk a.I a.K a.P).To)))) rfl (fun w hs => (x_assign (.tmp rfl rfl))) ?_
 refine s_nil ?_
 refine n_then ?_
 refine c_ret ?_
 refine r_block ?_
 refine r_then ?_
 refine leave_ret (res_one (v:=.bool (decide (((t.putE (GPacket.mk a.I a.K a.P).From (GPacket.mk a.I a.K a.P).To):Int) = (m.putE (GPacket.mk a.I a.K a.P).From (GPacket.mk a.I a.K a.P).To)))) rfl (.mk rfl rfl)) ?_
 have hyes:(decide (((t.putE (GPacket.mk a.I a.K a.P).From (GPacket.mk a.I a.K a.P).To):Int) = (m.putE (GPacket.mk a.I a.K a.P).From (GPacket.mk a.I a.K a.P).To))) = true:=(decide_eq_true (hrel.put (bs:=[]) (k:=0) (v:=.slice none 0 0) (v':=.slice none 0 0)).1)
 rw [hyes]
 have hs54:=(((((hs53.pick 3 rfl rfl).drop.pick 3 rfl rfl).drop.pick 2 rfl rfl).pick 2 rfl rfl).pick 2 rfl rfl)
 exact ⟨H,nt34,vb29,cb30,vt31,ct32,nr44,vb45,cb46,vt47,ct48,(Hp.le.refl _),rfl,(NetOk.any ok33),(RSOk.any ok49),(by rw [hnt35,hnr50]; exact hrel.put.2),(by have h8:=St.netUp [obj g_m 56 (rCells nr44.n vb45 vt47 nr44.df nr44.lost),row 37 3 vb45 nr44.ps.length cb46,row 3 1 vt47 nr44.bi.length ct48] hs54; rw [← hnr50] at h8; exact h8)⟩
 have hp15:¬ (((((a.Kind % 11):Nat):Int):Int) = 0):=of_decide_eq_false hc15
 refine c_cond_f (t:=false) (.tmp rfl (congrArg Value.bool hc15)) rfl ?_
 refine c_seq ?_
 refine c_region ?_
 refine st (v:=.bool (decide (((((a.Kind % 11):Nat):Int):Int) = 1))) (x_eql (k:=.u8) (a:=(((a.Kind % 11):Nat):Int)) (b:=1) (.tmp rfl rfl) .const) ?_
 refine st (v:=.bool (decide (((((a.Kind % 11):Nat):Int):Int) = 1))) (x_assign (.tmp rfl rfl)) ?_
 refine c_nil ?_
 refine n_then ?_
 rcases Bool.eq_false_or_eq_true (decide (((((a.Kind % 11):Nat):Int):Int) = 1)) with hc56 | hc56
 have hp56:((((a.Kind % 11):Nat):Int):Int) = 1:=of_decide_eq_true hc56
 refine c_cond_t (t:=true) (.tmp rfl (congrArg Value.bool hc56)) rfl ?_
 refine c_skip ?_
 refine n_then ?_
 refine c_cond_t (t:=true) (.tmp rfl (congrArg Value.bool hc56)) rfl ?_
 refine c_seq ?_
 refine c_region ?_
 refine st (v:=.pointer (some ⟨g11,0 + 1,none⟩)) (fa58_1 (.tmp rfl rfl)) ?_
 refine st (v:=.int .i64 a.I) (ld3 (.tmp rfl rfl) (hs14.cell 0 rfl (0 + 1) rfl)) ?_
 refine st (v:=.pointer (some ⟨g11,0 + 2,none⟩)) (fa58_2 (.tmp rfl rfl)) ?_
 refine st (v:=.int .i64 a.K) (ld3 (.tmp rfl rfl) (hs14.cell 0 rfl (0 + 2) rfl)) ?_
 refine st (v:=.pointer (some ⟨g11,0 + 3,none⟩)) (fa58_3 (.tmp rfl rfl)) ?_
 refine st (v:=.slice A6 n7 c8) (ld22 (.tmp rfl rfl) (hs14.cell 0 rfl (0 + 3) rfl)) ?_
 refine st (v:=.agg #[.int .i64 a.I,.int .i64 a.K,.slice A6 n7 c8]) (bl37 (ps:=[(0,.int .i64 a.I),(1,.int .i64 a.K),(2,.slice A6 n7 c8)]) (.cons (.tmp rfl rfl) (.cons (.tmp rfl rfl) (.cons (.tmp rfl rfl) Evp.nil))) rfl) ?_
 refine st_m (al37 (cs:=[.int .i64 0,.int .i64 0,.slice none 0 0]) hs14 rfl) ?_
 rintro _ w58 ⟨g57,rfl,hs60⟩
 refine st_m0 (sto37 (cs':=[.int .i64 a.I,.int .i64 a.K,.slice A6 n7 c8]) (i:=0) hs60 (v:=.agg #[.int .i64 a.I,.int .i64 a.K,.slice A6 n7 c8]) (.tmp rfl rfl) (.tmp rfl rfl) rfl (Nat.le_of_ble_eq_true rfl) (oneA rfl) rfl) ?_
 rintro w61 hs63
 refine c_nil ?_
 refine n_then ?_
 refine c_seq ?_
 refine s_region (L:=obj g57 37 [.int .i64 a.I,.int .i64 a.K,.slice A6 n7 c8]::obj g11 58 [.int .u8 ((a.Kind:Nat):Int),.int .i64 a.I,.int .i64 a.K,.slice A6 n7 c8]::obj g_m 56 (rCells m.n vb_m vt_m m.df m.lost)::row 37 3 vb_m m.ps.length cb_m::row 3 1 vt_m m.bi.length ct_m::netG 64 37 3 5 g_t t vb_t cb_t vt_t ct_t ((m.pks 5) ++ (L))) (L':=obj g57 37 [.int .i64 a.I,.int .i64 a.K,.slice A6 n7 c8]::obj g11 58 [.int .u8 ((a.Kind:Nat):Int),.int .i64 a.I,.int .i64 a.K,.slice A6 n7 c8]::L) none [(0,true),(1,true),(3,true),(4,true),(2,false),(5,false),(6,true),(7,true)] mixed hs63 (fun u hu => ((((St.dropG [obj g57 37 [.int .i64 a.I,.int .i64 a.K,.slice A6 n7 c8],obj g11 58 [.int .u8 ((a.Kind:Nat):Int),.int .i64 a.I,.int .i64 a.K,.slice A6 n7 c8],obj g_m 56 (rCells m.n vb_m vt_m m.df m.lost),row 37 3 vb_m m.ps.length cb_m,row 3 1 vt_m m.bi.length ct_m] ((St.netUp [obj g57 37 [.int .i64 a.I,.int .i64 a.K,.slice A6 n7 c8],obj g11 58 [.int .u8 ((a.Kind:Nat):Int),.int .i64 a.I,.int .i64 a.K,.slice A6 n7 c8],obj g_m 56 (rCells m.n vb_m vt_m m.df m.lost),row 37 3 vb_m m.ps.length cb_m,row 3 1 vt_m m.bi.length ct_m] hu).netDrop)).pick 2 rfl rfl).drop.pick 2 rfl rfl).drop.pick 2 rfl rfl).drop) (by kernel_rfl) ?_
 intro w65 hs66
 refine s_st (k:=0) (v:=.pointer (some ⟨g_t,0,none⟩)) rfl (fun w hs => (x_move (.tmp rfl rfl))) ?_
 refine s_st (k:=1) (v:=.agg #[.int .i64 a.I,.int .i64 a.K,.slice A6 n7 c8]) rfl (fun w hs => (ld37 (cs:=[.int .i64 a.I,.int .i64 a.K,.slice A6 n7 c8]) (.tmp rfl rfl) (hs.at_ 0 rfl (0) rfl) rfl)) ?_
 refine s_st (k:=3) (v:=.pointer (some ⟨g_m,0,none⟩)) rfl (fun w hs => (x_move (.tmp rfl rfl))) ?_
 refine s_st (k:=4) (v:=.agg #[.int .i64 a.I,.int .i64 a.K,.slice A6 n7 c8]) rfl (fun w hs => (ld37 (cs:=[.int .i64 a.I,.int .i64 a.K,.slice A6 n7 c8]) (.tmp rfl rfl) (hs.at_ 0 rfl (0) rfl) rfl)) ?_
 refine s_eff (k:=2) rfl ?_
 have hs67:St H _ (netG 64 37 3 5 g_t t vb_t cb_t vt_t ct_t (obj g57 37 [.int .i64 a.I,.int .i64 a.K,.slice A6 n7 c8]::obj g11 58 [.int .u8 ((a.Kind:Nat):Int),.int .i64 a.I,.int .i64 a.K,.slice A6 n7 c8]::obj g_m 56 (rCells m.n vb_m vt_m m.df m.lost)::row 37 3 vb_m m.ps.length cb_m::row 3 1 vt_m m.bi.length ct_m::(m.pks 5) ++ (L))):=St.netUp [obj g57 37 [.int .i64 a.I,.int .i64 a.K,.slice A6 n7 c8],obj g11 58 [.int .u8 ((a.Kind:Nat):Int),.int .i64 a.I,.int .i64 a.K,.slice A6 n7 c8],obj g_m 56 (rCells m.n vb_m vt_m m.df m.lost),row 37 3 vb_m m.ps.length cb_m,row 3 1 vt_m m.bi.length ct_m] hs66
 have hr68:kPacket.rep H (GPacket.mk a.I a.K a.P) [.int .i64 a.I,.int .i64 a.K,.slice A6 n7 c8]:=⟨A6,n7,c8,rfl,⟨b2,b3⟩,⟨b4,b5⟩,hy9⟩
 refine st_c cb17 .func (evs2 (.tmp rfl rfl) (.tmp rfl rfl)) (Put_spec hs67 ok_t (GPacket.mk a.I a.K a.P) hr68 (by have:=hrel.lc; have:=hrel.lost; omega)) ?_
 rintro e w69 ⟨nt76,vb71,cb72,vt73,ct74,v_78,rfl,ok75,hnt77,hs70⟩
 refine ⟨_,rfl,?_⟩
 have hs79:St H _ (obj g57 37 [.int .i64 a.I,.int .i64 a.K,.slice A6 n7 c8]::obj g11 58 [.int .u8 ((a.Kind:Nat):Int),.int .i64 a.I,.int .i64 a.K,.slice A6 n7 c8]::obj g_m 56 (rCells m.n vb_m vt_m m.df m.lost)::row 37 3 vb_m m.ps.length cb_m::row 3 1 vt_m m.bi.length ct_m::netG 64 37 3 5 g_t nt76 vb71 cb72 vt73 ct74 ((m.pks 5) ++ (L))):=St.netDown [obj g57 37 [.int .i64 a.I,.int .i64 a.K,.slice A6 n7 c8],obj g11 58 [.int .u8 ((a.Kind:Nat):Int),.int .i64 a.I,.int .i64 a.K,.slice A6 n7 c8],obj g_m 56 (rCells m.n vb_m vt_m m.df m.lost),row 37 3 vb_m m.ps.length cb_m,row 3 1 vt_m m.bi.length ct_m] hs70
 refine s_on (S':=fun u => St H u (obj g57 37 [.int .i64 a.I,.int .i64 a.K,.slice A6 n7 c8]::obj g11 58 [.int .u8 ((a.Kind:Nat):Int),.int .i64 a.I,.int .i64 a.K,.slice A6 n7 c8]::L)) (fun u hu => hu) ((((St.dropG [obj g57 37 [.int .i64 a.I,.int .i64 a.K,.slice A6 n7 c8],obj g11 58 [.int .u8 ((a.Kind:Nat):Int),.int .i64 a.I,.int .i64 a.K,.slice A6 n7 c8],obj g_m 56 (rCells m.n vb_m vt_m m.df m.lost),row 37 3 vb_m m.ps.length cb_m,row 3 1 vt_m m.bi.length ct_m] ((St.netUp [obj g57 37 [.int .i64 a.I,.int .i64 a.K,.slice A6 n7 c8],obj g11 58 [.int .u8 ((a.Kind:Nat):Int),.int .i64 a.I,.int .i64 a.K,.slice A6 n7 c8],obj g_m 56 (rCells m.n vb_m vt_m m.df m.lost),row 37 3 vb_m m.ps.length cb_m,row 3 1 vt_m m.bi.length ct_m] hs79).netDrop)).pick 2 rfl rfl).drop.pick 2 rfl rfl).drop.pick 2 rfl rfl).drop ?_
 refine s_eff (k:=5) rfl ?_
 have hs80:St H _ (row 3 1 vt_m m.bi.length ct_m::obj g57 37 [.int .i64 a.I,.int .i64 a.K,.slice A6 n7 c8]::obj g11 58 [.int .u8 ((a.Kind:Nat):Int),.int .i64 a.I,.int .i64 a.K,.slice A6 n7 c8]::obj g_m 56 (rCells m.n vb_m vt_m m.df m.lost)::row 37 3 vb_m m.ps.length cb_m::netG 64 37 3 5 g_t nt76 vb71 cb72 vt73 ct74 ((m.pks 5) ++ (L))):=hs79.pick 4 rfl rfl
 have hs81:St H _ (row 37 3 vb_m m.ps.length cb_m::row 3 1 vt_m m.bi.length ct_m::obj g57 37 [.int .i64 a.I,.int .i64 a.K,.slice A6 n7 c8]::obj g11 58 [.int .u8 ((a.Kind:Nat):Int),.int .i64 a.I,.int .i64 a.K,.slice A6 n7 c8]::obj g_m 56 (rCells m.n vb_m vt_m m.df m.lost)::netG 64 37 3 5 g_t nt76 vb71 cb72 vt73 ct74 ((m.pks 5) ++ (L))):=hs80.pick 4 rfl rfl
 have hs82:St H _ (obj g_m 56 (rCells m.n vb_m vt_m m.df m.lost)::row 37 3 vb_m m.ps.length cb_m::row 3 1 vt_m m.bi.length ct_m::obj g57 37 [.int .i64 a.I,.int .i64 a.K,.slice A6 n7 c8]::obj g11 58 [.int .u8 ((a.Kind:Nat):Int),.int .i64 a.I,.int .i64 a.K,.slice A6 n7 c8]::netG 64 37 3 5 g_t nt76 vb71 cb72 vt73 ct74 ((m.pks 5) ++ (L))):=hs81.pick 4 rfl rfl
 have hr83:kPacket.rep H (GPacket.mk a.I a.K a.P) [.int .i64 a.I,.int .i64 a.K,.slice A6 n7 c8]:=⟨A6,n7,c8,rfl,⟨b2,b3⟩,⟨b4,b5⟩,hy9⟩
 refine st_c cb40 .func (evs2 (.tmp rfl rfl) (.tmp rfl rfl)) (rPut_spec hs82 (m:=m) (RSOk.any ok_m) (GPacket.mk a.I a.K a.P) hr83 (by have:=hrel.lc; omega)) ?_
 rintro e w84 ⟨nr86,vb87,cb88,vt89,ct90,v_93,rfl,ok91,hnr92,hs85⟩
 refine ⟨_,rfl,?_⟩
 have hn1_m:=ok91.n1
 have hn16_m:=ok91.n16
 have hlen_m:=ok91.len
 have hmax_m:=ok91.max
 have hl0_m:=ok91.l0
 have hs94:St H _ (obj g_m 56 (rCells nr86.n vb87 vt89 nr86.df nr86.lost)::row 37 3 vb87 nr86.ps.length cb88::row 3 1 vt89 nr86.bi.length ct90::obj g57 37 [.int .i64 a.I,.int .i64 a.K,.slice A6 n7 c8]::obj g11 58 [.int .u8 ((a.Kind:Nat):Int),.int .i64 a.I,.int .i64 a.K,.slice A6 n7 c8]::(m.putR 5 (GPacket.mk a.I a.K a.P).From (GPacket.mk a.I a.K a.P).To (GPacket.mk a.I a.K a.P).Bytes v_93) ++ (netG 64 37 3 5 g_t nt76 vb71 cb72 vt73 ct74 ((m.pks 5) ++ (L)))):=St.xDown [obj g_m 56 (rCells nr86.n vb87 vt89 nr86.df nr86.lost),row 37 3 vb87 nr86.ps.length cb88,row 3 1 vt89 nr86.bi.length ct90] [obj g57 37 [.int .i64 a.I,.int .i64 a.K,.slice A6 n7 c8],obj g11 58 [.int .u8 ((a.Kind:Nat):Int),.int .i64 a.I,.int .i64 a.K,.slice A6 n7 c8]] hs85
 refine s_on (S':=fun u => St H u (obj g57 37 [.int .i64 a.I,.int .i64 a.K,.slice A6 n7 c8]::obj g11 58 [.int .u8 ((a.Kind:Nat):Int),.int .i64 a.I,.int .i64 a.K,.slice A6 n7 c8]::L)) (fun u hu => hu) (St.dropG [obj g_m 56 (rCells nr86.n vb87 vt89 nr86.df nr86.lost),row 37 3 vb87 nr86.ps.length cb88,row 3 1 vt89 nr86.bi.length ct90,obj g57 37 [.int .i64 a.I,.int .i64 a.K,.slice A6 n7 c8],obj g11 58 [.int .u8 ((a.Kind:Nat):Int),.int .i64 a.I,.int .i64 a.K,.slice A6 n7 c8]] ((St.netUp [obj g_m 56 (rCells nr86.n vb87 vt89 nr86.df nr86.lost),row 37 3 vb87 nr86.ps.length cb88,row 3 1 vt89 nr86.bi.length ct90,obj g57 37 [.int .i64 a.I,.int .i64 a.K,.slice A6 n7 c8],obj g11 58 [.int .u8 ((a.Kind:Nat):Int),.int .i64 a.I,.int .i64 a.K,.slice A6 n7 c8]] (St.dropG [obj g_m 56 (rCells nr86.n vb87 vt89 nr86.df nr86.lost),row 37 3 vb87 nr86.ps.length cb88,row 3 1 vt89 nr86.bi.length ct90,obj g57 37 [.int .i64 a.I,.int .i64 a.K,.slice A6 n7 c8],obj g11 58 [.int .u8 ((a.Kind:Nat):Int),.int .i64 a.I,.int .i64 a.K,.slice A6 n7 c8]] hs94)).netDrop)).drop.drop.drop ?_
 have hs95:St H _ (obj g_m 56 (rCells nr86.n vb87 vt89 nr86.df nr86.lost)::row 37 3 vb87 nr86.ps.length cb88::row 3 1 vt89 nr86.bi.length ct90::obj g57 37 [.int .i64 a.I,.int .i64 a.K,.slice A6 n7 c8]::obj g11 58 [.int .u8 ((a.Kind:Nat):Int),.int .i64 a.I,.int .i64 a.K,.slice A6 n7 c8]::netG 64 37 3 5 g_t nt76 vb71 cb72 vt73 ct74 (((m.putS a.I a.K a.P 0 v_93).pks 5) ++ (L))):=St.intoG [obj g_m 56 (rCells nr86.n vb87 vt89 nr86.df nr86.lost),row 37 3 vb87 nr86.ps.length cb88,row 3 1 vt89 nr86.bi.length ct90,obj g57 37 [.int .i64 a.I,.int .i64 a.K,.slice A6 n7 c8],obj g11 58 [.int .u8 ((a.Kind:Nat):Int),.int .i64 a.I,.int .i64 a.K,.slice A6 n7 c8]] hs94 put_pks
 skip
 refine s_st (k:=6) (v:=.bool (decide (((t.putE (GPacket.mk a.I a.K a.P).From (GPacket.mk a.I a.K a.P).To):Int) = (m.putE (GPacket.mk a.I a.K a.P).From (GPacket.mk a.I a.K a.P).To)))) rfl (fun w hs => (x_eql (k:=.i64) (a:=(t.putE (GPacket.mk a.I a.K a.P).From (GPacket.mk a.I a.K a.P).To)) (b:=(m.putE (GPacket.mk a.I a.K a.P).From (GPacket.mk a.I a.K a.P).To)) (.tmp rfl rfl) (.tmp rfl rfl))) ?_
 refine s_st (k:=7) (v:=.bool (decide (((t.putE (GPacket.mk a.I a.K a.P).From (GPacket.mk a.I a.K a.P).To):Int) = (m.putE (GPacket.mk a.I a.K a.P).From (GPacket.mk a.I a.K a.P).To)))) rfl (fun w hs => (x_assign (.tmp rfl rfl))) ?_
 refine s_nil ?_
 refine n_then ?_
 refine c_ret ?_
 refine r_block ?_
 refine r_then ?_
 refine leave_ret (res_one (v:=.bool (decide (((t.putE (GPacket.mk a.I a.K a.P).From (GPacket.mk a.I a.K a.P).To):Int) = (m.putE (GPacket.mk a.I a.K a.P).From (GPacket.mk a.I a.K a.P).To)))) rfl (.mk rfl rfl)) ?_
 have hyes:(decide (((t.putE (GPacket.mk a.I a.K a.P).From (GPacket.mk a.I a.K a.P).To):Int) = (m.putE (GPacket.mk a.I a.K a.P).From (GPacket.mk a.I a.K a.P).To))) = true:=(decide_eq_true (hrel.put (bs:=[]) (k:=0) (v:=.slice none 0 0) (v':=.slice none 0 0)).1)
 rw [hyes]
 have hs96:=(((((hs95.pick 3 rfl rfl).drop.pick 3 rfl rfl).drop.pick 2 rfl rfl).pick 2 rfl rfl).pick 2 rfl rfl)
 exact ⟨H,nt76,vb71,cb72,vt73,ct74,nr86,vb87,cb88,vt89,ct90,(Hp.le.refl _),rfl,(NetOk.any ok75),(RSOk.any ok91),(by rw [hnt77,hnr92]; exact hrel.put.2),(by have h8:=St.netUp [obj g_m 56 (rCells nr86.n vb87 vt89 nr86.df nr86.lost),row 37 3 vb87 nr86.ps.length cb88,row 3 1 vt89 nr86.bi.length ct90] hs96; rw [← hnr92] at h8; exact h8)⟩
 have hp56:¬ (((((a.Kind % 11):Nat):Int):Int) = 1):=of_decide_eq_false hc56
 refine c_cond_f (t:=false) (.tmp rfl (congrArg Value.bool hc56)) rfl ?_
 refine c_region ?_
 refine st (v:=.bool (decide (((((a.Kind % 11):Nat):Int):Int) = 2))) (x_eql (k:=.u8) (a:=(((a.Kind % 11):Nat):Int)) (b:=2) (.tmp rfl rfl) .const) ?_
 refine st (v:=.bool (decide (((((a.Kind % 11):Nat):Int):Int) = 2))) (x_assign (.tmp rfl rfl)) ?_
 refine c_nil ?_
 refine n_then ?_
 rcases Bool.eq_false_or_eq_true (decide (((((a.Kind % 11):Nat):Int):Int) = 2)) with hc98 | hc98
 have hp98:((((a.Kind % 11):Nat):Int):Int) = 2:=of_decide_eq_true hc98
 refine c_cond_t (t:=true) (.tmp rfl (congrArg Value.bool hc98)) rfl ?_
 refine c_seq ?_
 refine c_region ?_
 refine st (v:=.pointer (some ⟨g11,0 + 1,none⟩)) (fa58_1 (.tmp rfl rfl)) ?_
 refine st (v:=.int .i64 a.I) (ld3 (.tmp rfl rfl) (hs14.cell 0 rfl (0 + 1) rfl)) ?_
 refine st (v:=.pointer (some ⟨g11,0 + 2,none⟩)) (fa58_2 (.tmp rfl rfl)) ?_
 refine st (v:=.int .i64 a.K) (ld3 (.tmp rfl rfl) (hs14.cell 0 rfl (0 + 2) rfl)) ?_
 refine st (v:=.pointer (some ⟨g11,0 + 3,none⟩)) (fa58_3 (.tmp rfl rfl)) ?_
 refine st (v:=.slice A6 n7 c8) (ld22 (.tmp rfl rfl) (hs14.cell 0 rfl (0 + 3) rfl)) ?_
 refine st (v:=.agg #[.int .i64 a.I,.int .i64 a.K,.slice A6 n7 c8]) (bl37 (ps:=[(0,.int .i64 a.I),(1,.int .i64 a.K),(2,.slice A6 n7 c8)]) (.cons (.tmp rfl rfl) (.cons (.tmp rfl rfl) (.cons (.tmp rfl rfl) Evp.nil))) rfl) ?_
 refine st_m (al37 (cs:=[.int .i64 0,.int .i64 0,.slice none 0 0]) hs14 rfl) ?_
 rintro _ w100 ⟨g99,rfl,hs102⟩
 refine st_m0 (sto37 (cs':=[.int .i64 a.I,.int .i64 a.K,.slice A6 n7 c8]) (i:=0) hs102 (v:=.agg #[.int .i64 a.I,.int .i64 a.K,.slice A6 n7 c8]) (.tmp rfl rfl) (.tmp rfl rfl) rfl (Nat.le_of_ble_eq_true rfl) (oneA rfl) rfl) ?_
 rintro w103 hs105
 refine c_nil ?_
 refine n_then ?_
 refine c_seq ?_
 refine s_region (L:=obj g99 37 [.int .i64 a.I,.int .i64 a.K,.slice A6 n7 c8]::obj g11 58 [.int .u8 ((a.Kind:Nat):Int),.int .i64 a.I,.int .i64 a.K,.slice A6 n7 c8]::obj g_m 56 (rCells m.n vb_m vt_m m.df m.lost)::row 37 3 vb_m m.ps.length cb_m::row 3 1 vt_m m.bi.length ct_m::netG 64 37 3 5 g_t t vb_t cb_t vt_t ct_t ((m.pks 5) ++ (L))) (L':=obj g99 37 [.int .i64 a.I,.int .i64 a.K,.slice A6 n7 c8]::obj g11 58 [.int .u8 ((a.Kind:Nat):Int),.int .i64 a.I,.int .i64 a.K,.slice A6 n7 c8]::L) none [(0,true),(1,true),(3,true),(4,true),(2,false),(5,false),(6,true),(7,true)] mixed hs105 (fun u hu => ((((St.dropG [obj g99 37 [.int .i64 a.I,.int .i64 a.K,.slice A6 n7 c8],obj g11 58 [.int .u8 ((a.Kind:Nat):Int),.int .i64 a.I,.int .i64 a.K,.slice A6 n7 c8],obj g_m 56 (rCells m.n vb_m vt_m m.df m.lost),row 37 3 vb_m m.ps.length cb_m,row 3 1 vt_m m.bi.length ct_m] ((St.netUp [obj g99 37 [.int .i64 a.I,.int .i64 a.K,.slice A6 n7 c8],obj g11 58 [.int .u8 ((a.Kind:Nat):Int),.int .i64 a.I,.int .i64 a.K,.slice A6 n7 c8],obj g_m 56 (rCells m.n vb_m vt_m m.df m.lost),row 37 3 vb_m m.ps.length cb_m,row 3 1 vt_m m.bi.length ct_m] hu).netDrop)).pick 2 rfl rfl).drop.pick 2 rfl rfl).drop.pick 2 rfl rfl).drop) (by kernel_rfl) ?_
 intro w106 hs107
 refine s_st (k:=0) (v:=.pointer (some ⟨g_t,0,none⟩)) rfl (fun w hs => (x_move (.tmp rfl rfl))) ?_
 refine s_st (k:=1) (v:=.agg #[.int .i64 a.I,.int .i64 a.K,.slice A6 n7 c8]) rfl (fun w hs => (ld37 (cs:=[.int .i64 a.I,.int .i64 a.K,.slice A6 n7 c8]) (.tmp rfl rfl) (hs.at_ 0 rfl (0) rfl) rfl)) ?_
 refine s_st (k:=3) (v:=.pointer (some ⟨g_m,0,none⟩)) rfl (fun w hs => (x_move (.tmp rfl rfl))) ?_
 refine s_st (k:=4) (v:=.agg #[.int .i64 a.I,.int .i64 a.K,.slice A6 n7 c8]) rfl (fun w hs => (ld37 (cs:=[.int .i64 a.I,.int .i64 a.K,.slice A6 n7 c8]) (.tmp rfl rfl) (hs.at_ 0 rfl (0) rfl) rfl)) ?_
 refine s_eff (k:=2) rfl ?_
 have hs108:St H _ (netG 64 37 3 5 g_t t vb_t cb_t vt_t ct_t (obj g99 37 [.int .i64 a.I,.int .i64 a.K,.slice A6 n7 c8]::obj g11 58 [.int .u8 ((a.Kind:Nat):Int),.int .i64 a.I,.int .i64 a.K,.slice A6 n7 c8]::obj g_m 56 (rCells m.n vb_m vt_m m.df m.lost)::row 37 3 vb_m m.ps.length cb_m::row 3 1 vt_m m.bi.length ct_m::(m.pks 5) ++ (L))):=St.netUp [obj g99 37 [.int .i64 a.I,.int .i64 a.K,.slice A6 n7 c8],obj g11 58 [.int .u8 ((a.Kind:Nat):Int),.int .i64 a.I,.int .i64 a.K,.slice A6 n7 c8],obj g_m 56 (rCells m.n vb_m vt_m m.df m.lost),row 37 3 vb_m m.ps.length cb_m,row 3 1 vt_m m.bi.length ct_m] hs107
 have hr109:kPacket.rep H (GPacket.mk a.I a.K a.P) [.int .i64 a.I,.int .i64 a.K,.slice A6 n7 c8]:=⟨A6,n7,c8,rfl,⟨b2,b3⟩,⟨b4,b5⟩,hy9⟩
 refine st_c cb17 .func (evs2 (.tmp rfl rfl) (.tmp rfl rfl)) (Put_spec hs108 ok_t (GPacket.mk a.I a.K a.P) hr109 (by have:=hrel.lc; have:=hrel.lost; omega)) ?_
 rintro e w110 ⟨nt117,vb112,cb113,vt114,ct115,v_119,rfl,ok116,hnt118,hs111⟩
 refine ⟨_,rfl,?_⟩
 have hs120:St H _ (obj g99 37 [.int .i64 a.I,.int .i64 a.K,.slice A6 n7 c8]::obj g11 58 [.int .u8 ((a.Kind:Nat):Int),.int .i64 a.I,.int .i64 a.K,.slice A6 n7 c8]::obj g_m 56 (rCells m.n vb_m vt_m m.df m.lost)::row 37 3 vb_m m.ps.length cb_m::row 3 1 vt_m m.bi.length ct_m::netG 64 37 3 5 g_t nt117 vb112 cb113 vt114 ct115 ((m.pks 5) ++ (L))):=St.netDown [obj g99 37 [.int .i64 a.I,.int .i64 a.K,.slice A6 n7 c8],obj g11 58 [.int .u8 ((a.Kind:Nat):Int),.int .i64 a.I,.int .i64 a.K,.slice A6 n7 c8],obj g_m 56 (rCells m.n vb_m vt_m m.df m.lost),row 37 3 vb_m m.ps.length cb_m,row 3 1 vt_m m.bi.length ct_m] hs111
 refine s_on (S':=fun u => St H u (obj g99 37 [.int .i64 a.I,.int .i64 a.K,.slice A6 n7 c8]::obj g11 58 [.int .u8 ((a.Kind:Nat):Int),.int .i64 a.I,.int .i64 a.K,.slice A6 n7 c8]::L)) (fun u hu => hu) ((((St.dropG [obj g99 37 [.int .i64 a.I,.int .i64 a.K,.slice A6 n7 c8],obj g11 58 [.int .u8 ((a.Kind:Nat):Int),.int .i64 a.I,.int .i64 a.K,.slice A6 n7 c8],obj g_m 56 (rCells m.n vb_m vt_m m.df m.lost),row 37 3 vb_m m.ps.length cb_m,row 3 1 vt_m m.bi.length ct_m] ((St.netUp [obj g99 37 [.int .i64 a.I,.int .i64 a.K,.slice A6 n7 c8],obj g11 58 [.int .u8 ((a.Kind:Nat):Int),.int .i64 a.I,.int .i64 a.K,.slice A6 n7 c8],obj g_m 56 (rCells m.n vb_m vt_m m.df m.lost),row 37 3 vb_m m.ps.length cb_m,row 3 1 vt_m m.bi.length ct_m] hs120).netDrop)).pick 2 rfl rfl).drop.pick 2 rfl rfl).drop.pick 2 rfl rfl).drop ?_
 refine s_eff (k:=5) rfl ?_
 have hs121:St H _ (row 3 1 vt_m m.bi.length ct_m::obj g99 37 [.int .i64 a.I,.int .i64 a.K,.slice A6 n7 c8]::obj g11 58 [.int .u8 ((a.Kind:Nat):Int),.int .i64 a.I,.int .i64 a.K,.slice A6 n7 c8]::obj g_m 56 (rCells m.n vb_m vt_m m.df m.lost)::row 37 3 vb_m m.ps.length cb_m::netG 64 37 3 5 g_t nt117 vb112 cb113 vt114 ct115 ((m.pks 5) ++ (L))):=hs120.pick 4 rfl rfl
 have hs122:St H _ (row 37 3 vb_m m.ps.length cb_m::row 3 1 vt_m m.bi.length ct_m::obj g99 37 [.int .i64 a.I,.int .i64 a.K,.slice A6 n7 c8]::obj g11 58 [.int .u8 ((a.Kind:Nat):Int),.int .i64 a.I,.int .i64 a.K,.slice A6 n7 c8]::obj g_m 56 (rCells m.n vb_m vt_m m.df m.lost)::netG 64 37 3 5 g_t nt117 vb112 cb113 vt114 ct115 ((m.pks 5) ++ (L))):=hs121.pick 4 rfl rfl
 have hs123:St H _ (obj g_m 56 (rCells m.n vb_m vt_m m.df m.lost)::row 37 3 vb_m m.ps.length cb_m::row 3 1 vt_m m.bi.length ct_m::obj g99 37 [.int .i64 a.I,.int .i64 a.K,.slice A6 n7 c8]::obj g11 58 [.int .u8 ((a.Kind:Nat):Int),.int .i64 a.I,.int .i64 a.K,.slice A6 n7 c8]::netG 64 37 3 5 g_t nt117 vb112 cb113 vt114 ct115 ((m.pks 5) ++ (L))):=hs122.pick 4 rfl rfl
 have hr124:kPacket.rep H (GPacket.mk a.I a.K a.P) [.int .i64 a.I,.int .i64 a.K,.slice A6 n7 c8]:=⟨A6,n7,c8,rfl,⟨b2,b3⟩,⟨b4,b5⟩,hy9⟩
 refine st_c cb40 .func (evs2 (.tmp rfl rfl) (.tmp rfl rfl)) (rPut_spec hs123 (m:=m) (RSOk.any ok_m) (GPacket.mk a.I a.K a.P) hr124 (by have:=hrel.lc; omega)) ?_
 rintro e w125 ⟨nr127,vb128,cb129,vt130,ct131,v_134,rfl,ok132,hnr133,hs126⟩
 refine ⟨_,rfl,?_⟩
 have hn1_m:=ok132.n1
 have hn16_m:=ok132.n16
 have hlen_m:=ok132.len
 have hmax_m:=ok132.max
 have hl0_m:=ok132.l0
 have hs135:St H _ (obj g_m 56 (rCells nr127.n vb128 vt130 nr127.df nr127.lost)::row 37 3 vb128 nr127.ps.length cb129::row 3 1 vt130 nr127.bi.length ct131::obj g99 37 [.int .i64 a.I,.int .i64 a.K,.slice A6 n7 c8]::obj g11 58 [.int .u8 ((a.Kind:Nat):Int),.int .i64 a.I,.int .i64 a.K,.slice A6 n7 c8]::(m.putR 5 (GPacket.mk a.I a.K a.P).From (GPacket.mk a.I a.K a.P).To (GPacket.mk a.I a.K a.P).Bytes v_134) ++ (netG 64 37 3 5 g_t nt117 vb112 cb113 vt114 ct115 ((m.pks 5) ++ (L)))):=St.xDown [obj g_m 56 (rCells nr127.n vb128 vt130 nr127.df nr127.lost),row 37 3 vb128 nr127.ps.length cb129,row 3 1 vt130 nr127.bi.length ct131] [obj g99 37 [.int .i64 a.I,.int .i64 a.K,.slice A6 n7 c8],obj g11 58 [.int .u8 ((a.Kind:Nat):Int),.int .i64 a.I,.int .i64 a.K,.slice A6 n7 c8]] hs126
 refine s_on (S':=fun u => St H u (obj g99 37 [.int .i64 a.I,.int .i64 a.K,.slice A6 n7 c8]::obj g11 58 [.int .u8 ((a.Kind:Nat):Int),.int .i64 a.I,.int .i64 a.K,.slice A6 n7 c8]::L)) (fun u hu => hu) (St.dropG [obj g_m 56 (rCells nr127.n vb128 vt130 nr127.df nr127.lost),row 37 3 vb128 nr127.ps.length cb129,row 3 1 vt130 nr127.bi.length ct131,obj g99 37 [.int .i64 a.I,.int .i64 a.K,.slice A6 n7 c8],obj g11 58 [.int .u8 ((a.Kind:Nat):Int),.int .i64 a.I,.int .i64 a.K,.slice A6 n7 c8]] ((St.netUp [obj g_m 56 (rCells nr127.n vb128 vt130 nr127.df nr127.lost),row 37 3 vb128 nr127.ps.length cb129,row 3 1 vt130 nr127.bi.length ct131,obj g99 37 [.int .i64 a.I,.int .i64 a.K,.slice A6 n7 c8],obj g11 58 [.int .u8 ((a.Kind:Nat):Int),.int .i64 a.I,.int .i64 a.K,.slice A6 n7 c8]] (St.dropG [obj g_m 56 (rCells nr127.n vb128 vt130 nr127.df nr127.lost),row 37 3 vb128 nr127.ps.length cb129,row 3 1 vt130 nr127.bi.length ct131,obj g99 37 [.int .i64 a.I,.int .i64 a.K,.slice A6 n7 c8],obj g11 58 [.int .u8 ((a.Kind:Nat):Int),.int .i64 a.I,.int .i64 a.K,.slice A6 n7 c8]] hs135)).netDrop)).drop.drop.drop ?_
 have hs136:St H _ (obj g_m 56 (rCells nr127.n vb128 vt130 nr127.df nr127.lost)::row 37 3 vb128 nr127.ps.length cb129::row 3 1 vt130 nr127.bi.length ct131::obj g99 37 [.int .i64 a.I,.int .i64 a.K,.slice A6 n7 c8]::obj g11 58 [.int .u8 ((a.Kind:Nat):Int),.int .i64 a.I,.int .i64 a.K,.slice A6 n7 c8]::netG 64 37 3 5 g_t nt117 vb112 cb113 vt114 ct115 (((m.putS a.I a.K a.P 0 v_134).pks 5) ++ (L))):=St.intoG [obj g_m 56 (rCells nr127.n vb128 vt130 nr127.df nr127.lost),row 37 3 vb128 nr127.ps.length cb129,row 3 1 vt130 nr127.bi.length ct131,obj g99 37 [.int .i64 a.I,.int .i64 a.K,.slice A6 n7 c8],obj g11 58 [.int .u8 ((a.Kind:Nat):Int),.int .i64 a.I,.int .i64 a.K,.slice A6 n7 c8]] hs135 put_pks
 skip
 refine s_st (k:=6) (v:=.bool (decide (((t.putE (GPacket.mk a.I a.K a.P).From (GPacket.mk a.I a.K a.P).To):Int) = (m.putE (GPacket.mk a.I a.K a.P).From (GPacket.mk a.I a.K a.P).To)))) rfl (fun w hs => (x_eql (k:=.i64) (a:=(t.putE (GPacket.mk a.I a.K a.P).From (GPacket.mk a.I a.K a.P).To)) (b:=(m.putE (GPacket.mk a.I a.K a.P).From (GPacket.mk a.I a.K a.P).To)) (.tmp rfl rfl) (.tmp rfl rfl))) ?_
 refine s_st (k:=7) (v:=.bool (decide (((t.putE (GPacket.mk a.I a.K a.P).From (GPacket.mk a.I a.K a.P).To):Int) = (m.putE (GPacket.mk a.I a.K a.P).From (GPacket.mk a.I a.K a.P).To)))) rfl (fun w hs => (x_assign (.tmp rfl rfl))) ?_
 refine s_nil ?_
 refine n_then ?_
 refine c_ret ?_
 refine r_block ?_
 refine r_then ?_
 refine leave_ret (res_one (v:=.bool (decide (((t.putE (GPacket.mk a.I a.K a.P).From (GPacket.mk a.I a.K a.P).To):Int) = (m.putE (GPacket.mk a.I a.K a.P).From (GPacket.mk a.I a.K a.P).To)))) rfl (.mk rfl rfl)) ?_
 have hyes:(decide (((t.putE (GPacket.mk a.I a.K a.P).From (GPacket.mk a.I a.K a.P).To):Int) = (m.putE (GPacket.mk a.I a.K a.P).From (GPacket.mk a.I a.K a.P).To))) = true:=(decide_eq_true (hrel.put (bs:=[]) (k:=0) (v:=.slice none 0 0) (v':=.slice none 0 0)).1)
 rw [hyes]
 have hs137:=(((((hs136.pick 3 rfl rfl).drop.pick 3 rfl rfl).drop.pick 2 rfl rfl).pick 2 rfl rfl).pick 2 rfl rfl)
 exact ⟨H,nt117,vb112,cb113,vt114,ct115,nr127,vb128,cb129,vt130,ct131,(Hp.le.refl _),rfl,(NetOk.any ok116),(RSOk.any ok132),(by rw [hnt118,hnr133]; exact hrel.put.2),(by have h8:=St.netUp [obj g_m 56 (rCells nr127.n vb128 vt130 nr127.df nr127.lost),row 37 3 vb128 nr127.ps.length cb129,row 3 1 vt130 nr127.bi.length ct131] hs137; rw [← hnr133] at h8; exact h8)⟩
 have hp98:¬ (((((a.Kind % 11):Nat):Int):Int) = 2):=of_decide_eq_false hc98
 refine c_cond_f (t:=false) (.tmp rfl (congrArg Value.bool hc98)) rfl ?_
 refine c_seq ?_
 refine c_seq ?_
 refine c_region ?_
 refine st (v:=.bool (decide (((((a.Kind % 11):Nat):Int):Int) = 3))) (x_eql (k:=.u8) (a:=(((a.Kind % 11):Nat):Int)) (b:=3) (.tmp rfl rfl) .const) ?_
 refine st (v:=.bool (decide (((((a.Kind % 11):Nat):Int):Int) = 3))) (x_assign (.tmp rfl rfl)) ?_
 refine c_nil ?_
 refine n_then ?_
 rcases Bool.eq_false_or_eq_true (decide (((((a.Kind % 11):Nat):Int):Int) = 3)) with hc139 | hc139
 have hp139:((((a.Kind % 11):Nat):Int):Int) = 3:=of_decide_eq_true hc139
 refine c_cond_t (t:=true) (.tmp rfl (congrArg Value.bool hc139)) rfl ?_
 refine c_skip ?_
 refine n_then ?_
 refine c_cond_t (t:=true) (.tmp rfl (congrArg Value.bool hc139)) rfl ?_
 refine c_seq ?_
 refine c_region ?_
 refine st (v:=.pointer (some ⟨g_t,0,none⟩)) (x_move (.tmp rfl rfl)) ?_
 refine st (v:=.pointer (some ⟨g11,0 + 1,none⟩)) (fa58_1 (.tmp rfl rfl)) ?_
 refine st (v:=.int .i64 a.I) (ld3 (.tmp rfl rfl) (hs14.cell 0 rfl (0 + 1) rfl)) ?_
 have hs140:St H _ (netG 64 37 3 5 g_t t vb_t cb_t vt_t ct_t (obj g11 58 [.int .u8 ((a.Kind:Nat):Int),.int .i64 a.I,.int .i64 a.K,.slice A6 n7 c8]::obj g_m 56 (rCells m.n vb_m vt_m m.df m.lost)::row 37 3 vb_m m.ps.length cb_m::row 3 1 vt_m m.bi.length ct_m::(m.pks 5) ++ (L))):=St.netUp [obj g11 58 [.int .u8 ((a.Kind:Nat):Int),.int .i64 a.I,.int .i64 a.K,.slice A6 n7 c8],obj g_m 56 (rCells m.n vb_m vt_m m.df m.lost),row 37 3 vb_m m.ps.length cb_m,row 3 1 vt_m m.bi.length ct_m] hs14
 refine st_c cb22 .func (evs2 (.tmp rfl rfl) (.tmp rfl rfl)) (Take_spec hs140 ok_t a.I ⟨b2,b3⟩ (by have:=hrel.lc; have:=hrel.lost; omega)) ?_
 rintro e w141 ⟨v143,nt157,vb152,cb153,vt154,ct155,rfl,⟨b148,b149⟩,⟨b150,b151⟩,sm144,ok145,lb146,ok156,hnt158,hs142⟩
 refine ⟨_,rfl,?_⟩
 have hs159:=St.netUp [row 5 1 v143 ((t.takeP a.I).Bytes.length) (((t.takeP a.I).Bytes).map encB)] hs142
 have hs160:St H _ (row 5 1 v143 ((t.takeP a.I).Bytes.length) (((t.takeP a.I).Bytes).map encB)::obj g11 58 [.int .u8 ((a.Kind:Nat):Int),.int .i64 a.I,.int .i64 a.K,.slice A6 n7 c8]::obj g_m 56 (rCells m.n vb_m vt_m m.df m.lost)::row 37 3 vb_m m.ps.length cb_m::row 3 1 vt_m m.bi.length ct_m::netG 64 37 3 5 g_t nt157 vb152 cb153 vt154 ct155 ((m.pks 5) ++ (L))):=St.netDown [row 5 1 v143 ((t.takeP a.I).Bytes.length) (((t.takeP a.I).Bytes).map encB),obj g11 58 [.int .u8 ((a.Kind:Nat):Int),.int .i64 a.I,.int .i64 a.K,.slice A6 n7 c8],obj g_m 56 (rCells m.n vb_m vt_m m.df m.lost),row 37 3 vb_m m.ps.length cb_m,row 3 1 vt_m m.bi.length ct_m] hs159
 refine st (v:=.tuple #[.agg #[.int .i64 ((t.takeP a.I).From),.int .i64 ((t.takeP a.I).To),v143],.int .i64 (t.takeE a.I)]) (x_move (.tmp rfl rfl)) ?_
 refine st (v:=.agg #[.int .i64 ((t.takeP a.I).From),.int .i64 ((t.takeP a.I).To),v143]) (x_extract (.tmp rfl rfl) (i:=0) rfl) ?_
 refine st (v:=.int .i64 (t.takeE a.I)) (x_extract (.tmp rfl rfl) (i:=1) rfl) ?_
 refine st_m (al37 (cs:=[.int .i64 0,.int .i64 0,.slice none 0 0]) hs160 rfl) ?_
 rintro _ w162 ⟨g161,rfl,hs164⟩
 refine st_m0 (sto37 (cs':=[.int .i64 ((t.takeP a.I).From),.int .i64 ((t.takeP a.I).To),v143]) (i:=0) hs164 (v:=.agg #[.int .i64 ((t.takeP a.I).From),.int .i64 ((t.takeP a.I).To),v143]) (.tmp rfl rfl) (.tmp rfl rfl) rfl (Nat.le_of_ble_eq_true rfl) (oneA (allC rfl (allC rfl (allC (RowOk.oneC ok145) rfl)))) rfl) ?_
 rintro w165 hs167
 refine st (v:=.int .i64 (t.takeE a.I)) (x_assign (.tmp rfl rfl)) ?_
 refine c_nil ?_
 refine n_then ?_
 refine c_seq ?_
 refine c_region ?_
 refine st (v:=.pointer (some ⟨g_m,0,none⟩)) (x_move (.tmp rfl rfl)) ?_
 refine st (v:=.pointer (some ⟨g11,0 + 1,none⟩)) (fa58_1 (.tmp rfl rfl)) ?_
 refine st (v:=.int .i64 a.I) (ld3 (.tmp rfl rfl) (hs167.cell 2 rfl (0 + 1) rfl)) ?_
 have hs168:St H _ (row 3 1 vt_m m.bi.length ct_m::obj g161 37 [.int .i64 ((t.takeP a.I).From),.int .i64 ((t.takeP a.I).To),v143]::row 5 1 v143 ((t.takeP a.I).Bytes.length) (((t.takeP a.I).Bytes).map encB)::obj g11 58 [.int .u8 ((a.Kind:Nat):Int),.int .i64 a.I,.int .i64 a.K,.slice A6 n7 c8]::obj g_m 56 (rCells m.n vb_m vt_m m.df m.lost)::row 37 3 vb_m m.ps.length cb_m::netG 64 37 3 5 g_t nt157 vb152 cb153 vt154 ct155 ((m.pks 5) ++ (L))):=hs167.pick 5 rfl rfl
 have hs169:St H _ (row 37 3 vb_m m.ps.length cb_m::row 3 1 vt_m m.bi.length ct_m::obj g161 37 [.int .i64 ((t.takeP a.I).From),.int .i64 ((t.takeP a.I).To),v143]::row 5 1 v143 ((t.takeP a.I).Bytes.length) (((t.takeP a.I).Bytes).map encB)::obj g11 58 [.int .u8 ((a.Kind:Nat):Int),.int .i64 a.I,.int .i64 a.K,.slice A6 n7 c8]::obj g_m 56 (rCells m.n vb_m vt_m m.df m.lost)::netG 64 37 3 5 g_t nt157 vb152 cb153 vt154 ct155 ((m.pks 5) ++ (L))):=hs168.pick 5 rfl rfl
 have hs170:St H _ (obj g_m 56 (rCells m.n vb_m vt_m m.df m.lost)::row 37 3 vb_m m.ps.length cb_m::row 3 1 vt_m m.bi.length ct_m::obj g161 37 [.int .i64 ((t.takeP a.I).From),.int .i64 ((t.takeP a.I).To),v143]::row 5 1 v143 ((t.takeP a.I).Bytes.length) (((t.takeP a.I).Bytes).map encB)::obj g11 58 [.int .u8 ((a.Kind:Nat):Int),.int .i64 a.I,.int .i64 a.K,.slice A6 n7 c8]::netG 64 37 3 5 g_t nt157 vb152 cb153 vt154 ct155 ((m.pks 5) ++ (L))):=hs169.pick 5 rfl rfl
 refine st_c cb41 .func (evs2 (.tmp rfl rfl) (.tmp rfl rfl)) (rtake_spec hs170 (m:=m) (RSOk.any ok_m) a.I ⟨b2,b3⟩ (by have:=hrel.lc; omega)) ?_
 rintro e w171 ⟨H173,nr175,vb176,cb177,vt178,ct179,hle174,rfl,ok180,hnr181,hs172⟩
 refine ⟨_,rfl,?_⟩
 have hn1_m:=ok180.n1
 have hn16_m:=ok180.n16
 have hlen_m:=ok180.len
 have hmax_m:=ok180.max
 have hl0_m:=ok180.l0
 refine st (v:=.tuple #[.agg #[.int .i64 ((m.takeP a.I).From),.int .i64 ((m.takeP a.I).To),(m.takeP a.I).v],.int .i64 (m.takeE a.I)]) (x_move (.tmp rfl rfl)) ?_
 refine st (v:=.agg #[.int .i64 ((m.takeP a.I).From),.int .i64 ((m.takeP a.I).To),(m.takeP a.I).v]) (x_extract (.tmp rfl rfl) (i:=0) rfl) ?_
 refine st (v:=.int .i64 (m.takeE a.I)) (x_extract (.tmp rfl rfl) (i:=1) rfl) ?_
 refine st_m (al37 (cs:=[.int .i64 0,.int .i64 0,.slice none 0 0]) hs172 rfl) ?_
 rintro _ w183 ⟨g182,rfl,hs185⟩
 have htp:=rtake_pk ok_m a.I
 skip
 refine st_m0 (sto37 (cs':=[.int .i64 ((m.takeP a.I).From),.int .i64 ((m.takeP a.I).To),(m.takeP a.I).v]) (i:=0) hs185 (v:=.agg #[.int .i64 ((m.takeP a.I).From),.int .i64 ((m.takeP a.I).To),(m.takeP a.I).v]) (.tmp rfl rfl) (.tmp rfl rfl) rfl (Nat.le_of_ble_eq_true rfl) (oneA (allC rfl (allC rfl (allC (RowOk.oneC htp.1) rfl)))) rfl) ?_
 rintro w186 hs188
 refine st (v:=.int .i64 (m.takeE a.I)) (x_assign (.tmp rfl rfl)) ?_
 refine c_nil ?_
 refine n_then ?_
 refine c_seq ?_
 refine c_region ?_
 have hs189:St H173 _ (row 5 1 ((m.takeP a.I).v) ((m.takeP a.I).bs.length) (((m.takeP a.I).bs).map encB)::obj g182 37 [.int .i64 ((m.takeP a.I).From),.int .i64 ((m.takeP a.I).To),(m.takeP a.I).v]::obj g_m 56 (rCells nr175.n vb176 vt178 nr175.df nr175.lost)::row 37 3 vb176 nr175.ps.length cb177::row 3 1 vt178 nr175.bi.length ct179::obj g161 37 [.int .i64 ((t.takeP a.I).From),.int .i64 ((t.takeP a.I).To),v143]::row 5 1 v143 ((t.takeP a.I).Bytes.length) (((t.takeP a.I).Bytes).map encB)::obj g11 58 [.int .u8 ((a.Kind:Nat):Int),.int .i64 a.I,.int .i64 a.K,.slice A6 n7 c8]::netG 64 37 3 5 g_t nt157 vb152 cb153 vt154 ct155 (((m.takeS a.I).pks 5) ++ (L))):=St.takeRow [obj g182 37 [.int .i64 ((m.takeP a.I).From),.int .i64 ((m.takeP a.I).To),(m.takeP a.I).v],obj g_m 56 (rCells nr175.n vb176 vt178 nr175.df nr175.lost),row 37 3 vb176 nr175.ps.length cb177,row 3 1 vt178 nr175.bi.length ct179,obj g161 37 [.int .i64 ((t.takeP a.I).From),.int .i64 ((t.takeP a.I).To),v143],row 5 1 v143 ((t.takeP a.I).Bytes.length) (((t.takeP a.I).Bytes).map encB),obj g11 58 [.int .u8 ((a.Kind:Nat):Int),.int .i64 a.I,.int .i64 a.K,.slice A6 n7 c8]] hs188 a.I
 skip
 refine st (v:=.int .i64 (t.takeE a.I)) (x_move (.tmp rfl rfl)) ?_
 refine st (v:=.int .i64 (m.takeE a.I)) (x_move (.tmp rfl rfl)) ?_
 refine st (v:=.bool (decide (((t.takeE a.I):Int) = (m.takeE a.I)))) (x_eql (k:=.i64) (a:=(t.takeE a.I)) (b:=(m.takeE a.I)) (.tmp rfl rfl) (.tmp rfl rfl)) ?_
 refine st (v:=.bool (decide (((t.takeE a.I):Int) = (m.takeE a.I)))) (x_move (.tmp rfl rfl)) ?_
 have hc190:(decide (((t.takeE a.I):Int) = (m.takeE a.I))) = true:=(decide_eq_true (hrel.take).1)
 refine g_yes (yl (dj:=55) (b:=true) rfl rfl (congrArg Value.bool hc190)) ?_
 refine st (v:=.agg #[.int .i64 ((t.takeP a.I).From),.int .i64 ((t.takeP a.I).To),v143]) (ld37 (cs:=[.int .i64 ((t.takeP a.I).From),.int .i64 ((t.takeP a.I).To),v143]) (.tmp rfl rfl) (hs189.at_ 5 rfl (0) rfl) rfl) ?_
 refine g_yes (yl (dj:=55) (b:=true) rfl rfl (congrArg Value.bool hc190)) ?_
 refine st (v:=.agg #[.int .i64 ((m.takeP a.I).From),.int .i64 ((m.takeP a.I).To),(m.takeP a.I).v]) (ld37 (cs:=[.int .i64 ((m.takeP a.I).From),.int .i64 ((m.takeP a.I).To),(m.takeP a.I).v]) (.tmp rfl rfl) (hs189.at_ 1 rfl (0) rfl) rfl) ?_
 refine g_yes (yl (dj:=55) (b:=true) rfl rfl (congrArg Value.bool hc190)) ?_
 have hs191:St H173 _ (row 5 1 v143 ((t.takeP a.I).Bytes.length) (((t.takeP a.I).Bytes).map encB)::row 5 1 ((m.takeP a.I).v) ((m.takeP a.I).bs.length) (((m.takeP a.I).bs).map encB)::obj g182 37 [.int .i64 ((m.takeP a.I).From),.int .i64 ((m.takeP a.I).To),(m.takeP a.I).v]::obj g_m 56 (rCells nr175.n vb176 vt178 nr175.df nr175.lost)::row 37 3 vb176 nr175.ps.length cb177::row 3 1 vt178 nr175.bi.length ct179::obj g161 37 [.int .i64 ((t.takeP a.I).From),.int .i64 ((t.takeP a.I).To),v143]::obj g11 58 [.int .u8 ((a.Kind:Nat):Int),.int .i64 a.I,.int .i64 a.K,.slice A6 n7 c8]::netG 64 37 3 5 g_t nt157 vb152 cb153 vt154 ct155 (((m.takeS a.I).pks 5) ++ (L))):=hs189.pick 6 rfl rfl
 refine st_c cb42 .func (evs2 (.tmp rfl rfl) (.tmp rfl rfl)) (rsame_spec hs191 (a:=(GPacket.mk ((t.takeP a.I).From) ((t.takeP a.I).To) ((t.takeP a.I).Bytes))) ⟨b148,b149⟩ ⟨b150,b151⟩ sm144 ok145 (b:=(GPacket.mk ((m.takeP a.I).From) ((m.takeP a.I).To) ((m.takeP a.I).bs))) htp.2.2.1 htp.2.2.2 htp.2.1 htp.1 ) ?_
 rintro e w192 ⟨rfl,hs193⟩
 refine ⟨_,rfl,?_⟩
 refine st (v:=.bool (decide ((GPacket.mk ((t.takeP a.I).From) ((t.takeP a.I).To) ((t.takeP a.I).Bytes)) = (GPacket.mk ((m.takeP a.I).From) ((m.takeP a.I).To) ((m.takeP a.I).bs))))) (x_pick_t (.tmp rfl (congrArg Value.bool hc190)) (.tmp rfl rfl)) ?_
 refine st (v:=.bool (decide ((GPacket.mk ((t.takeP a.I).From) ((t.takeP a.I).To) ((t.takeP a.I).Bytes)) = (GPacket.mk ((m.takeP a.I).From) ((m.takeP a.I).To) ((m.takeP a.I).bs))))) (x_assign (.tmp rfl rfl)) ?_
 refine c_nil ?_
 refine n_then ?_
 refine c_ret ?_
 refine r_block ?_
 refine r_then ?_
 refine leave_ret (res_one (v:=.bool (decide ((GPacket.mk ((t.takeP a.I).From) ((t.takeP a.I).To) ((t.takeP a.I).Bytes)) = (GPacket.mk ((m.takeP a.I).From) ((m.takeP a.I).To) ((m.takeP a.I).bs))))) rfl (.mk rfl rfl)) ?_
 have hyes:(decide ((GPacket.mk ((t.takeP a.I).From) ((t.takeP a.I).To) ((t.takeP a.I).Bytes)) = (GPacket.mk ((m.takeP a.I).From) ((m.takeP a.I).To) ((m.takeP a.I).bs)))) = true:=(decide_eq_true (by rw [(hrel.take (i:=a.I)).2.1]; rfl))
 rw [hyes]
 have hs194:=(((((hs193.drop.drop.drop.pick 3 rfl rfl).drop.pick 3 rfl rfl).drop.pick 2 rfl rfl).pick 2 rfl rfl).pick 2 rfl rfl)
 exact ⟨H173,nt157,vb152,cb153,vt154,ct155,nr175,vb176,cb177,vt178,ct179,hle174,rfl,(NetOk.any (NetOk.mono ok156 hle174)),(RSOk.any ok180),(by rw [hnt158,hnr181]; exact hrel.take.2.2),(by have h8:=St.netUp [obj g_m 56 (rCells nr175.n vb176 vt178 nr175.df nr175.lost),row 37 3 vb176 nr175.ps.length cb177,row 3 1 vt178 nr175.bi.length ct179] hs194; rw [← hnr181] at h8; exact h8)⟩
 have hp139:¬ (((((a.Kind % 11):Nat):Int):Int) = 3):=of_decide_eq_false hc139
 refine c_cond_f (t:=false) (.tmp rfl (congrArg Value.bool hc139)) rfl ?_
 refine c_region ?_
 refine st (v:=.bool (decide (((((a.Kind % 11):Nat):Int):Int) = 4))) (x_eql (k:=.u8) (a:=(((a.Kind % 11):Nat):Int)) (b:=4) (.tmp rfl rfl) .const) ?_
 refine st (v:=.bool (decide (((((a.Kind % 11):Nat):Int):Int) = 4))) (x_assign (.tmp rfl rfl)) ?_
 refine c_nil ?_
 refine n_then ?_
 rcases Bool.eq_false_or_eq_true (decide (((((a.Kind % 11):Nat):Int):Int) = 4)) with hc196 | hc196
 have hp196:((((a.Kind % 11):Nat):Int):Int) = 4:=of_decide_eq_true hc196
 refine c_cond_t (t:=true) (.tmp rfl (congrArg Value.bool hc196)) rfl ?_
 refine c_seq ?_
 refine c_region ?_
 refine st (v:=.pointer (some ⟨g_t,0,none⟩)) (x_move (.tmp rfl rfl)) ?_
 refine st (v:=.pointer (some ⟨g11,0 + 1,none⟩)) (fa58_1 (.tmp rfl rfl)) ?_
 refine st (v:=.int .i64 a.I) (ld3 (.tmp rfl rfl) (hs14.cell 0 rfl (0 + 1) rfl)) ?_
 have hs197:St H _ (netG 64 37 3 5 g_t t vb_t cb_t vt_t ct_t (obj g11 58 [.int .u8 ((a.Kind:Nat):Int),.int .i64 a.I,.int .i64 a.K,.slice A6 n7 c8]::obj g_m 56 (rCells m.n vb_m vt_m m.df m.lost)::row 37 3 vb_m m.ps.length cb_m::row 3 1 vt_m m.bi.length ct_m::(m.pks 5) ++ (L))):=St.netUp [obj g11 58 [.int .u8 ((a.Kind:Nat):Int),.int .i64 a.I,.int .i64 a.K,.slice A6 n7 c8],obj g_m 56 (rCells m.n vb_m vt_m m.df m.lost),row 37 3 vb_m m.ps.length cb_m,row 3 1 vt_m m.bi.length ct_m] hs14
 refine st_c cb22 .func (evs2 (.tmp rfl rfl) (.tmp rfl rfl)) (Take_spec hs197 ok_t a.I ⟨b2,b3⟩ (by have:=hrel.lc; have:=hrel.lost; omega)) ?_
 rintro e w198 ⟨v200,nt214,vb209,cb210,vt211,ct212,rfl,⟨b205,b206⟩,⟨b207,b208⟩,sm201,ok202,lb203,ok213,hnt215,hs199⟩
 refine ⟨_,rfl,?_⟩
 have hs216:=St.netUp [row 5 1 v200 ((t.takeP a.I).Bytes.length) (((t.takeP a.I).Bytes).map encB)] hs199
 have hs217:St H _ (row 5 1 v200 ((t.takeP a.I).Bytes.length) (((t.takeP a.I).Bytes).map encB)::obj g11 58 [.int .u8 ((a.Kind:Nat):Int),.int .i64 a.I,.int .i64 a.K,.slice A6 n7 c8]::obj g_m 56 (rCells m.n vb_m vt_m m.df m.lost)::row 37 3 vb_m m.ps.length cb_m::row 3 1 vt_m m.bi.length ct_m::netG 64 37 3 5 g_t nt214 vb209 cb210 vt211 ct212 ((m.pks 5) ++ (L))):=St.netDown [row 5 1 v200 ((t.takeP a.I).Bytes.length) (((t.takeP a.I).Bytes).map encB),obj g11 58 [.int .u8 ((a.Kind:Nat):Int),.int .i64 a.I,.int .i64 a.K,.slice A6 n7 c8],obj g_m 56 (rCells m.n vb_m vt_m m.df m.lost),row 37 3 vb_m m.ps.length cb_m,row 3 1 vt_m m.bi.length ct_m] hs216
 refine st (v:=.tuple #[.agg #[.int .i64 ((t.takeP a.I).From),.int .i64 ((t.takeP a.I).To),v200],.int .i64 (t.takeE a.I)]) (x_move (.tmp rfl rfl)) ?_
 refine st (v:=.agg #[.int .i64 ((t.takeP a.I).From),.int .i64 ((t.takeP a.I).To),v200]) (x_extract (.tmp rfl rfl) (i:=0) rfl) ?_
 refine st (v:=.int .i64 (t.takeE a.I)) (x_extract (.tmp rfl rfl) (i:=1) rfl) ?_
 refine st_m (al37 (cs:=[.int .i64 0,.int .i64 0,.slice none 0 0]) hs217 rfl) ?_
 rintro _ w219 ⟨g218,rfl,hs221⟩
 refine st_m0 (sto37 (cs':=[.int .i64 ((t.takeP a.I).From),.int .i64 ((t.takeP a.I).To),v200]) (i:=0) hs221 (v:=.agg #[.int .i64 ((t.takeP a.I).From),.int .i64 ((t.takeP a.I).To),v200]) (.tmp rfl rfl) (.tmp rfl rfl) rfl (Nat.le_of_ble_eq_true rfl) (oneA (allC rfl (allC rfl (allC (RowOk.oneC ok202) rfl)))) rfl) ?_
 rintro w222 hs224
 refine st (v:=.int .i64 (t.takeE a.I)) (x_assign (.tmp rfl rfl)) ?_
 refine c_nil ?_
 refine n_then ?_
 refine c_seq ?_
 refine c_region ?_
 refine st (v:=.pointer (some ⟨g_m,0,none⟩)) (x_move (.tmp rfl rfl)) ?_
 refine st (v:=.pointer (some ⟨g11,0 + 1,none⟩)) (fa58_1 (.tmp rfl rfl)) ?_
 refine st (v:=.int .i64 a.I) (ld3 (.tmp rfl rfl) (hs224.cell 2 rfl (0 + 1) rfl)) ?_
 have hs225:St H _ (row 3 1 vt_m m.bi.length ct_m::obj g218 37 [.int .i64 ((t.takeP a.I).From),.int .i64 ((t.takeP a.I).To),v200]::row 5 1 v200 ((t.takeP a.I).Bytes.length) (((t.takeP a.I).Bytes).map encB)::obj g11 58 [.int .u8 ((a.Kind:Nat):Int),.int .i64 a.I,.int .i64 a.K,.slice A6 n7 c8]::obj g_m 56 (rCells m.n vb_m vt_m m.df m.lost)::row 37 3 vb_m m.ps.length cb_m::netG 64 37 3 5 g_t nt214 vb209 cb210 vt211 ct212 ((m.pks 5) ++ (L))):=hs224.pick 5 rfl rfl
 have hs226:St H _ (row 37 3 vb_m m.ps.length cb_m::row 3 1 vt_m m.bi.length ct_m::obj g218 37 [.int .i64 ((t.takeP a.I).From),.int .i64 ((t.takeP a.I).To),v200]::row 5 1 v200 ((t.takeP a.I).Bytes.length) (((t.takeP a.I).Bytes).map encB)::obj g11 58 [.int .u8 ((a.Kind:Nat):Int),.int .i64 a.I,.int .i64 a.K,.slice A6 n7 c8]::obj g_m 56 (rCells m.n vb_m vt_m m.df m.lost)::netG 64 37 3 5 g_t nt214 vb209 cb210 vt211 ct212 ((m.pks 5) ++ (L))):=hs225.pick 5 rfl rfl
 have hs227:St H _ (obj g_m 56 (rCells m.n vb_m vt_m m.df m.lost)::row 37 3 vb_m m.ps.length cb_m::row 3 1 vt_m m.bi.length ct_m::obj g218 37 [.int .i64 ((t.takeP a.I).From),.int .i64 ((t.takeP a.I).To),v200]::row 5 1 v200 ((t.takeP a.I).Bytes.length) (((t.takeP a.I).Bytes).map encB)::obj g11 58 [.int .u8 ((a.Kind:Nat):Int),.int .i64 a.I,.int .i64 a.K,.slice A6 n7 c8]::netG 64 37 3 5 g_t nt214 vb209 cb210 vt211 ct212 ((m.pks 5) ++ (L))):=hs226.pick 5 rfl rfl
 refine st_c cb41 .func (evs2 (.tmp rfl rfl) (.tmp rfl rfl)) (rtake_spec hs227 (m:=m) (RSOk.any ok_m) a.I ⟨b2,b3⟩ (by have:=hrel.lc; omega)) ?_
 rintro e w228 ⟨H230,nr232,vb233,cb234,vt235,ct236,hle231,rfl,ok237,hnr238,hs229⟩
 refine ⟨_,rfl,?_⟩
 have hn1_m:=ok237.n1
 have hn16_m:=ok237.n16
 have hlen_m:=ok237.len
 have hmax_m:=ok237.max
 have hl0_m:=ok237.l0
 refine st (v:=.tuple #[.agg #[.int .i64 ((m.takeP a.I).From),.int .i64 ((m.takeP a.I).To),(m.takeP a.I).v],.int .i64 (m.takeE a.I)]) (x_move (.tmp rfl rfl)) ?_
 refine st (v:=.agg #[.int .i64 ((m.takeP a.I).From),.int .i64 ((m.takeP a.I).To),(m.takeP a.I).v]) (x_extract (.tmp rfl rfl) (i:=0) rfl) ?_
 refine st (v:=.int .i64 (m.takeE a.I)) (x_extract (.tmp rfl rfl) (i:=1) rfl) ?_
 refine st_m (al37 (cs:=[.int .i64 0,.int .i64 0,.slice none 0 0]) hs229 rfl) ?_
 rintro _ w240 ⟨g239,rfl,hs242⟩
 have htp:=rtake_pk ok_m a.I
 skip
 refine st_m0 (sto37 (cs':=[.int .i64 ((m.takeP a.I).From),.int .i64 ((m.takeP a.I).To),(m.takeP a.I).v]) (i:=0) hs242 (v:=.agg #[.int .i64 ((m.takeP a.I).From),.int .i64 ((m.takeP a.I).To),(m.takeP a.I).v]) (.tmp rfl rfl) (.tmp rfl rfl) rfl (Nat.le_of_ble_eq_true rfl) (oneA (allC rfl (allC rfl (allC (RowOk.oneC htp.1) rfl)))) rfl) ?_
 rintro w243 hs245
 refine st (v:=.int .i64 (m.takeE a.I)) (x_assign (.tmp rfl rfl)) ?_
 refine c_nil ?_
 refine n_then ?_
 refine c_seq ?_
 refine c_region ?_
 have hs246:St H230 _ (row 5 1 ((m.takeP a.I).v) ((m.takeP a.I).bs.length) (((m.takeP a.I).bs).map encB)::obj g239 37 [.int .i64 ((m.takeP a.I).From),.int .i64 ((m.takeP a.I).To),(m.takeP a.I).v]::obj g_m 56 (rCells nr232.n vb233 vt235 nr232.df nr232.lost)::row 37 3 vb233 nr232.ps.length cb234::row 3 1 vt235 nr232.bi.length ct236::obj g218 37 [.int .i64 ((t.takeP a.I).From),.int .i64 ((t.takeP a.I).To),v200]::row 5 1 v200 ((t.takeP a.I).Bytes.length) (((t.takeP a.I).Bytes).map encB)::obj g11 58 [.int .u8 ((a.Kind:Nat):Int),.int .i64 a.I,.int .i64 a.K,.slice A6 n7 c8]::netG 64 37 3 5 g_t nt214 vb209 cb210 vt211 ct212 (((m.takeS a.I).pks 5) ++ (L))):=St.takeRow [obj g239 37 [.int .i64 ((m.takeP a.I).From),.int .i64 ((m.takeP a.I).To),(m.takeP a.I).v],obj g_m 56 (rCells nr232.n vb233 vt235 nr232.df nr232.lost),row 37 3 vb233 nr232.ps.length cb234,row 3 1 vt235 nr232.bi.length ct236,obj g218 37 [.int .i64 ((t.takeP a.I).From),.int .i64 ((t.takeP a.I).To),v200],row 5 1 v200 ((t.takeP a.I).Bytes.length) (((t.takeP a.I).Bytes).map encB),obj g11 58 [.int .u8 ((a.Kind:Nat):Int),.int .i64 a.I,.int .i64 a.K,.slice A6 n7 c8]] hs245 a.I
 skip
 refine st (v:=.int .i64 (t.takeE a.I)) (x_move (.tmp rfl rfl)) ?_
 refine st (v:=.int .i64 (m.takeE a.I)) (x_move (.tmp rfl rfl)) ?_
 refine st (v:=.bool (decide (((t.takeE a.I):Int) = (m.takeE a.I)))) (x_eql (k:=.i64) (a:=(t.takeE a.I)) (b:=(m.takeE a.I)) (.tmp rfl rfl) (.tmp rfl rfl)) ?_
 refine st (v:=.bool (decide (((t.takeE a.I):Int) = (m.takeE a.I)))) (x_move (.tmp rfl rfl)) ?_
 have hc247:(decide (((t.takeE a.I):Int) = (m.takeE a.I))) = true:=(decide_eq_true (hrel.take).1)
 refine g_yes (yl (dj:=55) (b:=true) rfl rfl (congrArg Value.bool hc247)) ?_
 refine st (v:=.agg #[.int .i64 ((t.takeP a.I).From),.int .i64 ((t.takeP a.I).To),v200]) (ld37 (cs:=[.int .i64 ((t.takeP a.I).From),.int .i64 ((t.takeP a.I).To),v200]) (.tmp rfl rfl) (hs246.at_ 5 rfl (0) rfl) rfl) ?_
 refine g_yes (yl (dj:=55) (b:=true) rfl rfl (congrArg Value.bool hc247)) ?_
 refine st (v:=.agg #[.int .i64 ((m.takeP a.I).From),.int .i64 ((m.takeP a.I).To),(m.takeP a.I).v]) (ld37 (cs:=[.int .i64 ((m.takeP a.I).From),.int .i64 ((m.takeP a.I).To),(m.takeP a.I).v]) (.tmp rfl rfl) (hs246.at_ 1 rfl (0) rfl) rfl) ?_
 refine g_yes (yl (dj:=55) (b:=true) rfl rfl (congrArg Value.bool hc247)) ?_
 have hs248:St H230 _ (row 5 1 v200 ((t.takeP a.I).Bytes.length) (((t.takeP a.I).Bytes).map encB)::row 5 1 ((m.takeP a.I).v) ((m.takeP a.I).bs.length) (((m.takeP a.I).bs).map encB)::obj g239 37 [.int .i64 ((m.takeP a.I).From),.int .i64 ((m.takeP a.I).To),(m.takeP a.I).v]::obj g_m 56 (rCells nr232.n vb233 vt235 nr232.df nr232.lost)::row 37 3 vb233 nr232.ps.length cb234::row 3 1 vt235 nr232.bi.length ct236::obj g218 37 [.int .i64 ((t.takeP a.I).From),.int .i64 ((t.takeP a.I).To),v200]::obj g11 58 [.int .u8 ((a.Kind:Nat):Int),.int .i64 a.I,.int .i64 a.K,.slice A6 n7 c8]::netG 64 37 3 5 g_t nt214 vb209 cb210 vt211 ct212 (((m.takeS a.I).pks 5) ++ (L))):=hs246.pick 6 rfl rfl
 refine st_c cb42 .func (evs2 (.tmp rfl rfl) (.tmp rfl rfl)) (rsame_spec hs248 (a:=(GPacket.mk ((t.takeP a.I).From) ((t.takeP a.I).To) ((t.takeP a.I).Bytes))) ⟨b205,b206⟩ ⟨b207,b208⟩ sm201 ok202 (b:=(GPacket.mk ((m.takeP a.I).From) ((m.takeP a.I).To) ((m.takeP a.I).bs))) htp.2.2.1 htp.2.2.2 htp.2.1 htp.1 ) ?_
 rintro e w249 ⟨rfl,hs250⟩
 refine ⟨_,rfl,?_⟩
 refine st (v:=.bool (decide ((GPacket.mk ((t.takeP a.I).From) ((t.takeP a.I).To) ((t.takeP a.I).Bytes)) = (GPacket.mk ((m.takeP a.I).From) ((m.takeP a.I).To) ((m.takeP a.I).bs))))) (x_pick_t (.tmp rfl (congrArg Value.bool hc247)) (.tmp rfl rfl)) ?_
 refine st (v:=.bool (decide ((GPacket.mk ((t.takeP a.I).From) ((t.takeP a.I).To) ((t.takeP a.I).Bytes)) = (GPacket.mk ((m.takeP a.I).From) ((m.takeP a.I).To) ((m.takeP a.I).bs))))) (x_assign (.tmp rfl rfl)) ?_
 refine c_nil ?_
 refine n_then ?_
 refine c_ret ?_
 refine r_block ?_
 refine r_then ?_
 refine leave_ret (res_one (v:=.bool (decide ((GPacket.mk ((t.takeP a.I).From) ((t.takeP a.I).To) ((t.takeP a.I).Bytes)) = (GPacket.mk ((m.takeP a.I).From) ((m.takeP a.I).To) ((m.takeP a.I).bs))))) rfl (.mk rfl rfl)) ?_
 have hyes:(decide ((GPacket.mk ((t.takeP a.I).From) ((t.takeP a.I).To) ((t.takeP a.I).Bytes)) = (GPacket.mk ((m.takeP a.I).From) ((m.takeP a.I).To) ((m.takeP a.I).bs)))) = true:=(decide_eq_true (by rw [(hrel.take (i:=a.I)).2.1]; rfl))
 rw [hyes]
 have hs251:=(((((hs250.drop.drop.drop.pick 3 rfl rfl).drop.pick 3 rfl rfl).drop.pick 2 rfl rfl).pick 2 rfl rfl).pick 2 rfl rfl)
 exact ⟨H230,nt214,vb209,cb210,vt211,ct212,nr232,vb233,cb234,vt235,ct236,hle231,rfl,(NetOk.any (NetOk.mono ok213 hle231)),(RSOk.any ok237),(by rw [hnt215,hnr238]; exact hrel.take.2.2),(by have h8:=St.netUp [obj g_m 56 (rCells nr232.n vb233 vt235 nr232.df nr232.lost),row 37 3 vb233 nr232.ps.length cb234,row 3 1 vt235 nr232.bi.length ct236] hs251; rw [← hnr238] at h8; exact h8)⟩
 have hp196:¬ (((((a.Kind % 11):Nat):Int):Int) = 4):=of_decide_eq_false hc196
 refine c_cond_f (t:=false) (.tmp rfl (congrArg Value.bool hc196)) rfl ?_
 refine c_seq ?_
 refine c_region ?_
 refine st (v:=.bool (decide (((((a.Kind % 11):Nat):Int):Int) = 5))) (x_eql (k:=.u8) (a:=(((a.Kind % 11):Nat):Int)) (b:=5) (.tmp rfl rfl) .const) ?_
 refine st (v:=.bool (decide (((((a.Kind % 11):Nat):Int):Int) = 5))) (x_assign (.tmp rfl rfl)) ?_
 refine c_nil ?_
 refine n_then ?_
 rcases Bool.eq_false_or_eq_true (decide (((((a.Kind % 11):Nat):Int):Int) = 5)) with hc253 | hc253
 have hp253:((((a.Kind % 11):Nat):Int):Int) = 5:=of_decide_eq_true hc253
 refine c_cond_t (t:=true) (.tmp rfl (congrArg Value.bool hc253)) rfl ?_
 refine c_seq ?_
 refine s_region (L:=obj g11 58 [.int .u8 ((a.Kind:Nat):Int),.int .i64 a.I,.int .i64 a.K,.slice A6 n7 c8]::obj g_m 56 (rCells m.n vb_m vt_m m.df m.lost)::row 37 3 vb_m m.ps.length cb_m::row 3 1 vt_m m.bi.length ct_m::netG 64 37 3 5 g_t t vb_t cb_t vt_t ct_t ((m.pks 5) ++ (L))) (L':=obj g11 58 [.int .u8 ((a.Kind:Nat):Int),.int .i64 a.I,.int .i64 a.K,.slice A6 n7 c8]::L) none [(0,true),(1,true),(2,true),(4,true),(5,true),(6,true),(3,false),(7,false),(8,true),(9,true)] mixed hs14 (fun u hu => ((((St.dropG [obj g11 58 [.int .u8 ((a.Kind:Nat):Int),.int .i64 a.I,.int .i64 a.K,.slice A6 n7 c8],obj g_m 56 (rCells m.n vb_m vt_m m.df m.lost),row 37 3 vb_m m.ps.length cb_m,row 3 1 vt_m m.bi.length ct_m] ((St.netUp [obj g11 58 [.int .u8 ((a.Kind:Nat):Int),.int .i64 a.I,.int .i64 a.K,.slice A6 n7 c8],obj g_m 56 (rCells m.n vb_m vt_m m.df m.lost),row 37 3 vb_m m.ps.length cb_m,row 3 1 vt_m m.bi.length ct_m] hu).netDrop)).pick 1 rfl rfl).drop.pick 1 rfl rfl).drop.pick 1 rfl rfl).drop) (by kernel_rfl) ?_
 intro w254 hs255
 refine s_st (k:=0) (v:=.pointer (some ⟨g_t,0,none⟩)) rfl (fun w hs => (x_move (.tmp rfl rfl))) ?_
 refine s_st (k:=1) (v:=.pointer (some ⟨g11,0 + 1,none⟩)) rfl (fun w hs => (fa58_1 (.tmp rfl rfl))) ?_
 refine s_st (k:=2) (v:=.int .i64 a.I) rfl (fun w hs => (ld3 (.tmp rfl rfl) (hs.cell 0 rfl (0 + 1) rfl))) ?_
 refine s_st (k:=4) (v:=.pointer (some ⟨g_m,0,none⟩)) rfl (fun w hs => (x_move (.tmp rfl rfl))) ?_
 refine s_st (k:=5) (v:=.pointer (some ⟨g11,0 + 1,none⟩)) rfl (fun w hs => (fa58_1 (.tmp rfl rfl))) ?_
 refine s_st (k:=6) (v:=.int .i64 a.I) rfl (fun w hs => (ld3 (.tmp rfl rfl) (hs.cell 0 rfl (0 + 1) rfl))) ?_
 refine s_eff (k:=3) rfl ?_
 have hs256:St H _ (netG 64 37 3 5 g_t t vb_t cb_t vt_t ct_t (obj g11 58 [.int .u8 ((a.Kind:Nat):Int),.int .i64 a.I,.int .i64 a.K,.slice A6 n7 c8]::obj g_m 56 (rCells m.n vb_m vt_m m.df m.lost)::row 37 3 vb_m m.ps.length cb_m::row 3 1 vt_m m.bi.length ct_m::(m.pks 5) ++ (L))):=St.netUp [obj g11 58 [.int .u8 ((a.Kind:Nat):Int),.int .i64 a.I,.int .i64 a.K,.slice A6 n7 c8],obj g_m 56 (rCells m.n vb_m vt_m m.df m.lost),row 37 3 vb_m m.ps.length cb_m,row 3 1 vt_m m.bi.length ct_m] hs255
 refine st_c cb28 .func (evs2 (.tmp rfl rfl) (.tmp rfl rfl)) (Drop_spec hs256 ok_t a.I ⟨b2,b3⟩ (by have:=hrel.lc; have:=hrel.lost; omega)) ?_
 rintro e w257 ⟨nt264,vb259,cb260,vt261,ct262,rfl,ok263,hnt265,hs258⟩
 refine ⟨_,rfl,?_⟩
 have hs266:St H _ (obj g11 58 [.int .u8 ((a.Kind:Nat):Int),.int .i64 a.I,.int .i64 a.K,.slice A6 n7 c8]::obj g_m 56 (rCells m.n vb_m vt_m m.df m.lost)::row 37 3 vb_m m.ps.length cb_m::row 3 1 vt_m m.bi.length ct_m::netG 64 37 3 5 g_t nt264 vb259 cb260 vt261 ct262 ((m.pks 5) ++ (L))):=St.netDown [obj g11 58 [.int .u8 ((a.Kind:Nat):Int),.int .i64 a.I,.int .i64 a.K,.slice A6 n7 c8],obj g_m 56 (rCells m.n vb_m vt_m m.df m.lost),row 37 3 vb_m m.ps.length cb_m,row 3 1 vt_m m.bi.length ct_m] hs258
 refine s_on (S':=fun u => St H u (obj g11 58 [.int .u8 ((a.Kind:Nat):Int),.int .i64 a.I,.int .i64 a.K,.slice A6 n7 c8]::L)) (fun u hu => hu) ((((St.dropG [obj g11 58 [.int .u8 ((a.Kind:Nat):Int),.int .i64 a.I,.int .i64 a.K,.slice A6 n7 c8],obj g_m 56 (rCells m.n vb_m vt_m m.df m.lost),row 37 3 vb_m m.ps.length cb_m,row 3 1 vt_m m.bi.length ct_m] ((St.netUp [obj g11 58 [.int .u8 ((a.Kind:Nat):Int),.int .i64 a.I,.int .i64 a.K,.slice A6 n7 c8],obj g_m 56 (rCells m.n vb_m vt_m m.df m.lost),row 37 3 vb_m m.ps.length cb_m,row 3 1 vt_m m.bi.length ct_m] hs266).netDrop)).pick 1 rfl rfl).drop.pick 1 rfl rfl).drop.pick 1 rfl rfl).drop ?_
 refine s_eff (k:=7) rfl ?_
 have hs267:St H _ (row 3 1 vt_m m.bi.length ct_m::obj g11 58 [.int .u8 ((a.Kind:Nat):Int),.int .i64 a.I,.int .i64 a.K,.slice A6 n7 c8]::obj g_m 56 (rCells m.n vb_m vt_m m.df m.lost)::row 37 3 vb_m m.ps.length cb_m::netG 64 37 3 5 g_t nt264 vb259 cb260 vt261 ct262 ((m.pks 5) ++ (L))):=hs266.pick 3 rfl rfl
 have hs268:St H _ (row 37 3 vb_m m.ps.length cb_m::row 3 1 vt_m m.bi.length ct_m::obj g11 58 [.int .u8 ((a.Kind:Nat):Int),.int .i64 a.I,.int .i64 a.K,.slice A6 n7 c8]::obj g_m 56 (rCells m.n vb_m vt_m m.df m.lost)::netG 64 37 3 5 g_t nt264 vb259 cb260 vt261 ct262 ((m.pks 5) ++ (L))):=hs267.pick 3 rfl rfl
 have hs269:St H _ (obj g_m 56 (rCells m.n vb_m vt_m m.df m.lost)::row 37 3 vb_m m.ps.length cb_m::row 3 1 vt_m m.bi.length ct_m::obj g11 58 [.int .u8 ((a.Kind:Nat):Int),.int .i64 a.I,.int .i64 a.K,.slice A6 n7 c8]::netG 64 37 3 5 g_t nt264 vb259 cb260 vt261 ct262 ((m.pks 5) ++ (L))):=hs268.pick 3 rfl rfl
 refine st_c cb43 .func (evs2 (.tmp rfl rfl) (.tmp rfl rfl)) (rdrop_spec hs269 (m:=m) (RSOk.any ok_m) a.I ⟨b2,b3⟩ (by have:=hrel.lc; omega)) ?_
 rintro e w270 ⟨H272,nr274,vb275,cb276,vt277,ct278,hle273,rfl,ok279,hnr280,hs271⟩
 refine ⟨_,rfl,?_⟩
 have hn1_m:=ok279.n1
 have hn16_m:=ok279.n16
 have hlen_m:=ok279.len
 have hmax_m:=ok279.max
 have hl0_m:=ok279.l0
 refine s_on (S':=fun u => St H272 u (obj g11 58 [.int .u8 ((a.Kind:Nat):Int),.int .i64 a.I,.int .i64 a.K,.slice A6 n7 c8]::L)) (fun u hu => hu.weaken hle273) (St.dropG [obj g_m 56 (rCells nr274.n vb275 vt277 nr274.df nr274.lost),row 37 3 vb275 nr274.ps.length cb276,row 3 1 vt277 nr274.bi.length ct278,obj g11 58 [.int .u8 ((a.Kind:Nat):Int),.int .i64 a.I,.int .i64 a.K,.slice A6 n7 c8]] ((St.netUp [obj g_m 56 (rCells nr274.n vb275 vt277 nr274.df nr274.lost),row 37 3 vb275 nr274.ps.length cb276,row 3 1 vt277 nr274.bi.length ct278,obj g11 58 [.int .u8 ((a.Kind:Nat):Int),.int .i64 a.I,.int .i64 a.K,.slice A6 n7 c8]] hs271).netDrop)).drop.drop.drop ?_
 have hs281:St H272 _ (obj g_m 56 (rCells nr274.n vb275 vt277 nr274.df nr274.lost)::row 37 3 vb275 nr274.ps.length cb276::row 3 1 vt277 nr274.bi.length ct278::obj g11 58 [.int .u8 ((a.Kind:Nat):Int),.int .i64 a.I,.int .i64 a.K,.slice A6 n7 c8]::netG 64 37 3 5 g_t nt264 vb259 cb260 vt261 ct262 (((m.dropS a.I).pks 5) ++ (L))):=St.dropRow [obj g_m 56 (rCells nr274.n vb275 vt277 nr274.df nr274.lost),row 37 3 vb275 nr274.ps.length cb276,row 3 1 vt277 nr274.bi.length ct278,obj g11 58 [.int .u8 ((a.Kind:Nat):Int),.int .i64 a.I,.int .i64 a.K,.slice A6 n7 c8]] hs271 a.I
 skip
 refine s_st (k:=8) (v:=.bool (decide (((t.lookE a.I):Int) = (m.dropE a.I)))) rfl (fun w hs => (x_eql (k:=.i64) (a:=(t.lookE a.I)) (b:=(m.dropE a.I)) (.tmp rfl rfl) (.tmp rfl rfl))) ?_
 refine s_st (k:=9) (v:=.bool (decide (((t.lookE a.I):Int) = (m.dropE a.I)))) rfl (fun w hs => (x_assign (.tmp rfl rfl))) ?_
 refine s_nil ?_
 refine n_then ?_
 refine c_ret ?_
 refine r_block ?_
 refine r_then ?_
 refine leave_ret (res_one (v:=.bool (decide (((t.lookE a.I):Int) = (m.dropE a.I)))) rfl (.mk rfl rfl)) ?_
 have hyes:(decide (((t.lookE a.I):Int) = (m.dropE a.I))) = true:=(decide_eq_true hrel.look)
 rw [hyes]
 have hs282:=((((hs281.pick 3 rfl rfl).drop.pick 2 rfl rfl).pick 2 rfl rfl).pick 2 rfl rfl)
 exact ⟨H272,nt264,vb259,cb260,vt261,ct262,nr274,vb275,cb276,vt277,ct278,hle273,rfl,(NetOk.any (NetOk.mono ok263 hle273)),(RSOk.any ok279),(by rw [hnt265,hnr280]; exact hrel.drop),(by have h8:=St.netUp [obj g_m 56 (rCells nr274.n vb275 vt277 nr274.df nr274.lost),row 37 3 vb275 nr274.ps.length cb276,row 3 1 vt277 nr274.bi.length ct278] hs282; rw [← hnr280] at h8; exact h8)⟩
 have hp253:¬ (((((a.Kind % 11):Nat):Int):Int) = 5):=of_decide_eq_false hc253
 refine c_cond_f (t:=false) (.tmp rfl (congrArg Value.bool hc253)) rfl ?_
 refine c_seq ?_
 refine c_region ?_
 refine st (v:=.bool (decide (((((a.Kind % 11):Nat):Int):Int) = 6))) (x_eql (k:=.u8) (a:=(((a.Kind % 11):Nat):Int)) (b:=6) (.tmp rfl rfl) .const) ?_
 refine st (v:=.bool (decide (((((a.Kind % 11):Nat):Int):Int) = 6))) (x_assign (.tmp rfl rfl)) ?_
 refine c_nil ?_
 refine n_then ?_
 rcases Bool.eq_false_or_eq_true (decide (((((a.Kind % 11):Nat):Int):Int) = 6)) with hc284 | hc284
 have hp284:((((a.Kind % 11):Nat):Int):Int) = 6:=of_decide_eq_true hc284
 refine c_cond_t (t:=true) (.tmp rfl (congrArg Value.bool hc284)) rfl ?_
 refine c_seq ?_
 refine s_region (L:=obj g11 58 [.int .u8 ((a.Kind:Nat):Int),.int .i64 a.I,.int .i64 a.K,.slice A6 n7 c8]::obj g_m 56 (rCells m.n vb_m vt_m m.df m.lost)::row 37 3 vb_m m.ps.length cb_m::row 3 1 vt_m m.bi.length ct_m::netG 64 37 3 5 g_t t vb_t cb_t vt_t ct_t ((m.pks 5) ++ (L))) (L':=obj g11 58 [.int .u8 ((a.Kind:Nat):Int),.int .i64 a.I,.int .i64 a.K,.slice A6 n7 c8]::L) none [(0,true),(1,true),(2,true),(4,true),(5,true),(6,true),(3,false),(7,false),(8,true),(9,true)] mixed hs14 (fun u hu => ((((St.dropG [obj g11 58 [.int .u8 ((a.Kind:Nat):Int),.int .i64 a.I,.int .i64 a.K,.slice A6 n7 c8],obj g_m 56 (rCells m.n vb_m vt_m m.df m.lost),row 37 3 vb_m m.ps.length cb_m,row 3 1 vt_m m.bi.length ct_m] ((St.netUp [obj g11 58 [.int .u8 ((a.Kind:Nat):Int),.int .i64 a.I,.int .i64 a.K,.slice A6 n7 c8],obj g_m 56 (rCells m.n vb_m vt_m m.df m.lost),row 37 3 vb_m m.ps.length cb_m,row 3 1 vt_m m.bi.length ct_m] hu).netDrop)).pick 1 rfl rfl).drop.pick 1 rfl rfl).drop.pick 1 rfl rfl).drop) (by kernel_rfl) ?_
 intro w285 hs286
 refine s_st (k:=0) (v:=.pointer (some ⟨g_t,0,none⟩)) rfl (fun w hs => (x_move (.tmp rfl rfl))) ?_
 refine s_st (k:=1) (v:=.pointer (some ⟨g11,0 + 1,none⟩)) rfl (fun w hs => (fa58_1 (.tmp rfl rfl))) ?_
 refine s_st (k:=2) (v:=.int .i64 a.I) rfl (fun w hs => (ld3 (.tmp rfl rfl) (hs.cell 0 rfl (0 + 1) rfl))) ?_
 refine s_st (k:=4) (v:=.pointer (some ⟨g_m,0,none⟩)) rfl (fun w hs => (x_move (.tmp rfl rfl))) ?_
 refine s_st (k:=5) (v:=.pointer (some ⟨g11,0 + 1,none⟩)) rfl (fun w hs => (fa58_1 (.tmp rfl rfl))) ?_
 refine s_st (k:=6) (v:=.int .i64 a.I) rfl (fun w hs => (ld3 (.tmp rfl rfl) (hs.cell 0 rfl (0 + 1) rfl))) ?_
 refine s_eff (k:=3) rfl ?_
 have hs287:St H _ (netG 64 37 3 5 g_t t vb_t cb_t vt_t ct_t (obj g11 58 [.int .u8 ((a.Kind:Nat):Int),.int .i64 a.I,.int .i64 a.K,.slice A6 n7 c8]::obj g_m 56 (rCells m.n vb_m vt_m m.df m.lost)::row 37 3 vb_m m.ps.length cb_m::row 3 1 vt_m m.bi.length ct_m::(m.pks 5) ++ (L))):=St.netUp [obj g11 58 [.int .u8 ((a.Kind:Nat):Int),.int .i64 a.I,.int .i64 a.K,.slice A6 n7 c8],obj g_m 56 (rCells m.n vb_m vt_m m.df m.lost),row 37 3 vb_m m.ps.length cb_m,row 3 1 vt_m m.bi.length ct_m] hs286
 refine st_c cb20 .func (evs2 (.tmp rfl rfl) (.tmp rfl rfl)) (Double_spec hs287 ok_t a.I ⟨b2,b3⟩ (by have:=hrel.lc; have:=hrel.lost; omega)) ?_
 rintro e w288 ⟨nt295,vb290,cb291,vt292,ct293,v_297,rfl,ok294,hnt296,hs289⟩
 refine ⟨_,rfl,?_⟩
 have hs298:St H _ (obj g11 58 [.int .u8 ((a.Kind:Nat):Int),.int .i64 a.I,.int .i64 a.K,.slice A6 n7 c8]::obj g_m 56 (rCells m.n vb_m vt_m m.df m.lost)::row 37 3 vb_m m.ps.length cb_m::row 3 1 vt_m m.bi.length ct_m::netG 64 37 3 5 g_t nt295 vb290 cb291 vt292 ct293 ((m.pks 5) ++ (L))):=St.netDown [obj g11 58 [.int .u8 ((a.Kind:Nat):Int),.int .i64 a.I,.int .i64 a.K,.slice A6 n7 c8],obj g_m 56 (rCells m.n vb_m vt_m m.df m.lost),row 37 3 vb_m m.ps.length cb_m,row 3 1 vt_m m.bi.length ct_m] hs289
 refine s_on (S':=fun u => St H u (obj g11 58 [.int .u8 ((a.Kind:Nat):Int),.int .i64 a.I,.int .i64 a.K,.slice A6 n7 c8]::L)) (fun u hu => hu) ((((St.dropG [obj g11 58 [.int .u8 ((a.Kind:Nat):Int),.int .i64 a.I,.int .i64 a.K,.slice A6 n7 c8],obj g_m 56 (rCells m.n vb_m vt_m m.df m.lost),row 37 3 vb_m m.ps.length cb_m,row 3 1 vt_m m.bi.length ct_m] ((St.netUp [obj g11 58 [.int .u8 ((a.Kind:Nat):Int),.int .i64 a.I,.int .i64 a.K,.slice A6 n7 c8],obj g_m 56 (rCells m.n vb_m vt_m m.df m.lost),row 37 3 vb_m m.ps.length cb_m,row 3 1 vt_m m.bi.length ct_m] hs298).netDrop)).pick 1 rfl rfl).drop.pick 1 rfl rfl).drop.pick 1 rfl rfl).drop ?_
 refine s_eff (k:=7) rfl ?_
 by_cases hin:m.inn a.I
 have hq303:=at_pk ok_m hin
 have hs304:St H _ (row 5 1 ((m.at_ a.I).v) ((m.at_ a.I).bs.length) (((m.at_ a.I).bs).map encB)::obj g11 58 [.int .u8 ((a.Kind:Nat):Int),.int .i64 a.I,.int .i64 a.K,.slice A6 n7 c8]::obj g_m 56 (rCells m.n vb_m vt_m m.df m.lost)::row 37 3 vb_m m.ps.length cb_m::row 3 1 vt_m m.bi.length ct_m::netG 64 37 3 5 g_t nt295 vb290 cb291 vt292 ct293 (((m.rest a.I).map (pkRes 5)) ++ (L))):=St.pkAway [obj g11 58 [.int .u8 ((a.Kind:Nat):Int),.int .i64 a.I,.int .i64 a.K,.slice A6 n7 c8],obj g_m 56 (rCells m.n vb_m vt_m m.df m.lost),row 37 3 vb_m m.ps.length cb_m,row 3 1 vt_m m.bi.length ct_m] hs298 hin
 obtain ⟨H305,A306,c307,hle308,hs309,hv310,hy311,hth312⟩:=hs304.lendBs hq303.1 hq303.2.1 (by have:=hq303.2.2.2.2; omega)
 have hs314:St H305 _ (row 3 1 vt_m m.bi.length ct_m::obj g11 58 [.int .u8 ((a.Kind:Nat):Int),.int .i64 a.I,.int .i64 a.K,.slice A6 n7 c8]::obj g_m 56 (rCells m.n vb_m vt_m m.df m.lost)::row 37 3 vb_m m.ps.length cb_m::netG 64 37 3 5 g_t nt295 vb290 cb291 vt292 ct293 (((m.rest a.I).map (pkRes 5)) ++ (L))):=hs309.pick 3 rfl rfl
 have hs315:St H305 _ (row 37 3 vb_m m.ps.length cb_m::row 3 1 vt_m m.bi.length ct_m::obj g11 58 [.int .u8 ((a.Kind:Nat):Int),.int .i64 a.I,.int .i64 a.K,.slice A6 n7 c8]::obj g_m 56 (rCells m.n vb_m vt_m m.df m.lost)::netG 64 37 3 5 g_t nt295 vb290 cb291 vt292 ct293 (((m.rest a.I).map (pkRes 5)) ++ (L))):=hs314.pick 3 rfl rfl
 have hs316:St H305 _ (obj g_m 56 (rCells m.n vb_m vt_m m.df m.lost)::row 37 3 vb_m m.ps.length cb_m::row 3 1 vt_m m.bi.length ct_m::obj g11 58 [.int .u8 ((a.Kind:Nat):Int),.int .i64 a.I,.int .i64 a.K,.slice A6 n7 c8]::netG 64 37 3 5 g_t nt295 vb290 cb291 vt292 ct293 (((m.rest a.I).map (pkRes 5)) ++ (L))):=hs315.pick 3 rfl rfl
 refine st_c cb44 .func (evs2 (.tmp rfl rfl) (.tmp rfl rfl)) (rdouble_spec hs316 (m:=m) (RSOk.any ok_m) a.I ⟨b2,b3⟩ (by have:=hrel.lc; omega) (fun _ => ⟨_,_,hv310,hy311⟩)) ?_
 rintro e w317 ⟨nr319,vb320,cb321,vt322,ct323,v_326,rfl,ok324,hnr325,hs318⟩
 refine ⟨_,rfl,?_⟩
 have hn1_m:=ok324.n1
 have hn16_m:=ok324.n16
 have hlen_m:=ok324.len
 have hmax_m:=ok324.max
 have hl0_m:=ok324.l0
 have hs327:St H305 _ (obj g_m 56 (rCells nr319.n vb320 vt322 nr319.df nr319.lost)::row 37 3 vb320 nr319.ps.length cb321::row 3 1 vt322 nr319.bi.length ct323::obj g11 58 [.int .u8 ((a.Kind:Nat):Int),.int .i64 a.I,.int .i64 a.K,.slice A6 n7 c8]::(m.doubleR 5 a.I v_326) ++ (netG 64 37 3 5 g_t nt295 vb290 cb291 vt292 ct293 (((m.rest a.I).map (pkRes 5)) ++ (L)))):=St.xDown [obj g_m 56 (rCells nr319.n vb320 vt322 nr319.df nr319.lost),row 37 3 vb320 nr319.ps.length cb321,row 3 1 vt322 nr319.bi.length ct323] [obj g11 58 [.int .u8 ((a.Kind:Nat):Int),.int .i64 a.I,.int .i64 a.K,.slice A6 n7 c8]] hs318
 have hs313:St H _ (row 5 1 ((m.at_ a.I).v) ((m.at_ a.I).bs.length) (((m.at_ a.I).bs).map encB)::obj g_m 56 (rCells nr319.n vb320 vt322 nr319.df nr319.lost)::row 37 3 vb320 nr319.ps.length cb321::row 3 1 vt322 nr319.bi.length ct323::obj g11 58 [.int .u8 ((a.Kind:Nat):Int),.int .i64 a.I,.int .i64 a.K,.slice A6 n7 c8]::(m.doubleR 5 a.I v_326) ++ (netG 64 37 3 5 g_t nt295 vb290 cb291 vt292 ct293 (((m.rest a.I).map (pkRes 5)) ++ (L)))):=hth312 hs327
 have hs328:St H _ (obj g_m 56 (rCells nr319.n vb320 vt322 nr319.df nr319.lost)::row 37 3 vb320 nr319.ps.length cb321::row 3 1 vt322 nr319.bi.length ct323::obj g11 58 [.int .u8 ((a.Kind:Nat):Int),.int .i64 a.I,.int .i64 a.K,.slice A6 n7 c8]::(m.doubleR 5 a.I v_326) ++ (netG 64 37 3 5 g_t nt295 vb290 cb291 vt292 ct293 ((m.pks 5) ++ (L)))):=St.pkHomeX [obj g_m 56 (rCells nr319.n vb320 vt322 nr319.df nr319.lost),row 37 3 vb320 nr319.ps.length cb321,row 3 1 vt322 nr319.bi.length ct323,obj g11 58 [.int .u8 ((a.Kind:Nat):Int),.int .i64 a.I,.int .i64 a.K,.slice A6 n7 c8]] ((m.doubleR 5 a.I v_326)) hs313 hin
 refine s_on (S':=fun u => St H u (obj g11 58 [.int .u8 ((a.Kind:Nat):Int),.int .i64 a.I,.int .i64 a.K,.slice A6 n7 c8]::L)) (fun u hu => hu) (St.dropG [obj g_m 56 (rCells nr319.n vb320 vt322 nr319.df nr319.lost),row 37 3 vb320 nr319.ps.length cb321,row 3 1 vt322 nr319.bi.length ct323,obj g11 58 [.int .u8 ((a.Kind:Nat):Int),.int .i64 a.I,.int .i64 a.K,.slice A6 n7 c8]] ((St.netUp [obj g_m 56 (rCells nr319.n vb320 vt322 nr319.df nr319.lost),row 37 3 vb320 nr319.ps.length cb321,row 3 1 vt322 nr319.bi.length ct323,obj g11 58 [.int .u8 ((a.Kind:Nat):Int),.int .i64 a.I,.int .i64 a.K,.slice A6 n7 c8]] (St.dropG [obj g_m 56 (rCells nr319.n vb320 vt322 nr319.df nr319.lost),row 37 3 vb320 nr319.ps.length cb321,row 3 1 vt322 nr319.bi.length ct323,obj g11 58 [.int .u8 ((a.Kind:Nat):Int),.int .i64 a.I,.int .i64 a.K,.slice A6 n7 c8]] hs328)).netDrop)).drop.drop.drop ?_
 have hs329:St H _ (obj g_m 56 (rCells nr319.n vb320 vt322 nr319.df nr319.lost)::row 37 3 vb320 nr319.ps.length cb321::row 3 1 vt322 nr319.bi.length ct323::obj g11 58 [.int .u8 ((a.Kind:Nat):Int),.int .i64 a.I,.int .i64 a.K,.slice A6 n7 c8]::netG 64 37 3 5 g_t nt295 vb290 cb291 vt292 ct293 (((m.doubleS a.I v_326).pks 5) ++ (L))):=St.intoG [obj g_m 56 (rCells nr319.n vb320 vt322 nr319.df nr319.lost),row 37 3 vb320 nr319.ps.length cb321,row 3 1 vt322 nr319.bi.length ct323,obj g11 58 [.int .u8 ((a.Kind:Nat):Int),.int .i64 a.I,.int .i64 a.K,.slice A6 n7 c8]] hs328 double_pks
 skip
 refine s_st (k:=8) (v:=.bool (decide (((t.doubleE a.I):Int) = (m.doubleE a.I)))) rfl (fun w hs => (x_eql (k:=.i64) (a:=(t.doubleE a.I)) (b:=(m.doubleE a.I)) (.tmp rfl rfl) (.tmp rfl rfl))) ?_
 refine s_st (k:=9) (v:=.bool (decide (((t.doubleE a.I):Int) = (m.doubleE a.I)))) rfl (fun w hs => (x_assign (.tmp rfl rfl))) ?_
 refine s_nil ?_
 refine n_then ?_
 refine c_ret ?_
 refine r_block ?_
 refine r_then ?_
 refine leave_ret (res_one (v:=.bool (decide (((t.doubleE a.I):Int) = (m.doubleE a.I)))) rfl (.mk rfl rfl)) ?_
 have hyes:(decide (((t.doubleE a.I):Int) = (m.doubleE a.I))) = true:=(decide_eq_true (hrel.double (v:=.slice none 0 0) (v':=.slice none 0 0)).1)
 rw [hyes]
 have hs330:=((((hs329.pick 3 rfl rfl).drop.pick 2 rfl rfl).pick 2 rfl rfl).pick 2 rfl rfl)
 exact ⟨H,nt295,vb290,cb291,vt292,ct293,nr319,vb320,cb321,vt322,ct323,(Hp.le.refl _),rfl,(NetOk.any (NetOk.mono ok294 hle308)),(RSOk.any ok324),(by rw [hnt296,hnr325]; exact hrel.double.2),(by have h8:=St.netUp [obj g_m 56 (rCells nr319.n vb320 vt322 nr319.df nr319.lost),row 37 3 vb320 nr319.ps.length cb321,row 3 1 vt322 nr319.bi.length ct323] hs330; rw [← hnr325] at h8; exact h8)⟩
 have hni:=hin
 have hs332:St H _ (row 3 1 vt_m m.bi.length ct_m::obj g11 58 [.int .u8 ((a.Kind:Nat):Int),.int .i64 a.I,.int .i64 a.K,.slice A6 n7 c8]::obj g_m 56 (rCells m.n vb_m vt_m m.df m.lost)::row 37 3 vb_m m.ps.length cb_m::netG 64 37 3 5 g_t nt295 vb290 cb291 vt292 ct293 ((m.pks 5) ++ (L))):=hs298.pick 3 rfl rfl
 have hs333:St H _ (row 37 3 vb_m m.ps.length cb_m::row 3 1 vt_m m.bi.length ct_m::obj g11 58 [.int .u8 ((a.Kind:Nat):Int),.int .i64 a.I,.int .i64 a.K,.slice A6 n7 c8]::obj g_m 56 (rCells m.n vb_m vt_m m.df m.lost)::netG 64 37 3 5 g_t nt295 vb290 cb291 vt292 ct293 ((m.pks 5) ++ (L))):=hs332.pick 3 rfl rfl
 have hs334:St H _ (obj g_m 56 (rCells m.n vb_m vt_m m.df m.lost)::row 37 3 vb_m m.ps.length cb_m::row 3 1 vt_m m.bi.length ct_m::obj g11 58 [.int .u8 ((a.Kind:Nat):Int),.int .i64 a.I,.int .i64 a.K,.slice A6 n7 c8]::netG 64 37 3 5 g_t nt295 vb290 cb291 vt292 ct293 ((m.pks 5) ++ (L))):=hs333.pick 3 rfl rfl
 refine st_c cb44 .func (evs2 (.tmp rfl rfl) (.tmp rfl rfl)) (rdouble_spec hs334 (m:=m) (RSOk.any ok_m) a.I ⟨b2,b3⟩ (by have:=hrel.lc; omega) (fun h => absurd h hni)) ?_
 rintro e w335 ⟨nr337,vb338,cb339,vt340,ct341,v_344,rfl,ok342,hnr343,hs336⟩
 refine ⟨_,rfl,?_⟩
 have hn1_m:=ok342.n1
 have hn16_m:=ok342.n16
 have hlen_m:=ok342.len
 have hmax_m:=ok342.max
 have hl0_m:=ok342.l0
 have hs345:St H _ (obj g_m 56 (rCells nr337.n vb338 vt340 nr337.df nr337.lost)::row 37 3 vb338 nr337.ps.length cb339::row 3 1 vt340 nr337.bi.length ct341::obj g11 58 [.int .u8 ((a.Kind:Nat):Int),.int .i64 a.I,.int .i64 a.K,.slice A6 n7 c8]::(m.doubleR 5 a.I v_344) ++ (netG 64 37 3 5 g_t nt295 vb290 cb291 vt292 ct293 ((m.pks 5) ++ (L)))):=St.xDown [obj g_m 56 (rCells nr337.n vb338 vt340 nr337.df nr337.lost),row 37 3 vb338 nr337.ps.length cb339,row 3 1 vt340 nr337.bi.length ct341] [obj g11 58 [.int .u8 ((a.Kind:Nat):Int),.int .i64 a.I,.int .i64 a.K,.slice A6 n7 c8]] hs336
 refine s_on (S':=fun u => St H u (obj g11 58 [.int .u8 ((a.Kind:Nat):Int),.int .i64 a.I,.int .i64 a.K,.slice A6 n7 c8]::L)) (fun u hu => hu) (St.dropG [obj g_m 56 (rCells nr337.n vb338 vt340 nr337.df nr337.lost),row 37 3 vb338 nr337.ps.length cb339,row 3 1 vt340 nr337.bi.length ct341,obj g11 58 [.int .u8 ((a.Kind:Nat):Int),.int .i64 a.I,.int .i64 a.K,.slice A6 n7 c8]] ((St.netUp [obj g_m 56 (rCells nr337.n vb338 vt340 nr337.df nr337.lost),row 37 3 vb338 nr337.ps.length cb339,row 3 1 vt340 nr337.bi.length ct341,obj g11 58 [.int .u8 ((a.Kind:Nat):Int),.int .i64 a.I,.int .i64 a.K,.slice A6 n7 c8]] (St.dropG [obj g_m 56 (rCells nr337.n vb338 vt340 nr337.df nr337.lost),row 37 3 vb338 nr337.ps.length cb339,row 3 1 vt340 nr337.bi.length ct341,obj g11 58 [.int .u8 ((a.Kind:Nat):Int),.int .i64 a.I,.int .i64 a.K,.slice A6 n7 c8]] hs345)).netDrop)).drop.drop.drop ?_
 have hs346:St H _ (obj g_m 56 (rCells nr337.n vb338 vt340 nr337.df nr337.lost)::row 37 3 vb338 nr337.ps.length cb339::row 3 1 vt340 nr337.bi.length ct341::obj g11 58 [.int .u8 ((a.Kind:Nat):Int),.int .i64 a.I,.int .i64 a.K,.slice A6 n7 c8]::netG 64 37 3 5 g_t nt295 vb290 cb291 vt292 ct293 (((m.doubleS a.I v_344).pks 5) ++ (L))):=St.intoG [obj g_m 56 (rCells nr337.n vb338 vt340 nr337.df nr337.lost),row 37 3 vb338 nr337.ps.length cb339,row 3 1 vt340 nr337.bi.length ct341,obj g11 58 [.int .u8 ((a.Kind:Nat):Int),.int .i64 a.I,.int .i64 a.K,.slice A6 n7 c8]] hs345 double_pks
 skip
 refine s_st (k:=8) (v:=.bool (decide (((t.doubleE a.I):Int) = (m.doubleE a.I)))) rfl (fun w hs => (x_eql (k:=.i64) (a:=(t.doubleE a.I)) (b:=(m.doubleE a.I)) (.tmp rfl rfl) (.tmp rfl rfl))) ?_
 refine s_st (k:=9) (v:=.bool (decide (((t.doubleE a.I):Int) = (m.doubleE a.I)))) rfl (fun w hs => (x_assign (.tmp rfl rfl))) ?_
 refine s_nil ?_
 refine n_then ?_
 refine c_ret ?_
 refine r_block ?_
 refine r_then ?_
 refine leave_ret (res_one (v:=.bool (decide (((t.doubleE a.I):Int) = (m.doubleE a.I)))) rfl (.mk rfl rfl)) ?_
 have hyes:(decide (((t.doubleE a.I):Int) = (m.doubleE a.I))) = true:=(decide_eq_true (hrel.double (v:=.slice none 0 0) (v':=.slice none 0 0)).1)
 rw [hyes]
 have hs347:=((((hs346.pick 3 rfl rfl).drop.pick 2 rfl rfl).pick 2 rfl rfl).pick 2 rfl rfl)
 exact ⟨H,nt295,vb290,cb291,vt292,ct293,nr337,vb338,cb339,vt340,ct341,(Hp.le.refl _),rfl,(NetOk.any ok294),(RSOk.any ok342),(by rw [hnt296,hnr343]; exact hrel.double.2),(by have h8:=St.netUp [obj g_m 56 (rCells nr337.n vb338 vt340 nr337.df nr337.lost),row 37 3 vb338 nr337.ps.length cb339,row 3 1 vt340 nr337.bi.length ct341] hs347; rw [← hnr343] at h8; exact h8)⟩
 have hp284:¬ (((((a.Kind % 11):Nat):Int):Int) = 6):=of_decide_eq_false hc284
 refine c_cond_f (t:=false) (.tmp rfl (congrArg Value.bool hc284)) rfl ?_
 refine c_seq ?_
 refine c_region ?_
 refine st (v:=.bool (decide (((((a.Kind % 11):Nat):Int):Int) = 7))) (x_eql (k:=.u8) (a:=(((a.Kind % 11):Nat):Int)) (b:=7) (.tmp rfl rfl) .const) ?_
 refine st (v:=.bool (decide (((((a.Kind % 11):Nat):Int):Int) = 7))) (x_assign (.tmp rfl rfl)) ?_
 refine c_nil ?_
 refine n_then ?_
 rcases Bool.eq_false_or_eq_true (decide (((((a.Kind % 11):Nat):Int):Int) = 7)) with hc349 | hc349
 have hp349:((((a.Kind % 11):Nat):Int):Int) = 7:=of_decide_eq_true hc349
 refine c_cond_t (t:=true) (.tmp rfl (congrArg Value.bool hc349)) rfl ?_
 refine c_seq ?_
 refine s_region (L:=obj g11 58 [.int .u8 ((a.Kind:Nat):Int),.int .i64 a.I,.int .i64 a.K,.slice A6 n7 c8]::obj g_m 56 (rCells m.n vb_m vt_m m.df m.lost)::row 37 3 vb_m m.ps.length cb_m::row 3 1 vt_m m.bi.length ct_m::netG 64 37 3 5 g_t t vb_t cb_t vt_t ct_t ((m.pks 5) ++ (L))) (L':=obj g11 58 [.int .u8 ((a.Kind:Nat):Int),.int .i64 a.I,.int .i64 a.K,.slice A6 n7 c8]::L) none [(0,true),(1,true),(2,true),(3,true),(4,true),(6,true),(7,true),(8,true),(9,true),(10,true),(5,false),(11,false),(12,true),(13,true)] mixed hs14 (fun u hu => ((((St.dropG [obj g11 58 [.int .u8 ((a.Kind:Nat):Int),.int .i64 a.I,.int .i64 a.K,.slice A6 n7 c8],obj g_m 56 (rCells m.n vb_m vt_m m.df m.lost),row 37 3 vb_m m.ps.length cb_m,row 3 1 vt_m m.bi.length ct_m] ((St.netUp [obj g11 58 [.int .u8 ((a.Kind:Nat):Int),.int .i64 a.I,.int .i64 a.K,.slice A6 n7 c8],obj g_m 56 (rCells m.n vb_m vt_m m.df m.lost),row 37 3 vb_m m.ps.length cb_m,row 3 1 vt_m m.bi.length ct_m] hu).netDrop)).pick 1 rfl rfl).drop.pick 1 rfl rfl).drop.pick 1 rfl rfl).drop) (by kernel_rfl) ?_
 intro w350 hs351
 refine s_st (k:=0) (v:=.pointer (some ⟨g_t,0,none⟩)) rfl (fun w hs => (x_move (.tmp rfl rfl))) ?_
 refine s_st (k:=1) (v:=.pointer (some ⟨g11,0 + 1,none⟩)) rfl (fun w hs => (fa58_1 (.tmp rfl rfl))) ?_
 refine s_st (k:=2) (v:=.int .i64 a.I) rfl (fun w hs => (ld3 (.tmp rfl rfl) (hs.cell 0 rfl (0 + 1) rfl))) ?_
 refine s_st (k:=3) (v:=.pointer (some ⟨g11,0 + 2,none⟩)) rfl (fun w hs => (fa58_2 (.tmp rfl rfl))) ?_
 refine s_st (k:=4) (v:=.int .i64 a.K) rfl (fun w hs => (ld3 (.tmp rfl rfl) (hs.cell 0 rfl (0 + 2) rfl))) ?_
 refine s_st (k:=6) (v:=.pointer (some ⟨g_m,0,none⟩)) rfl (fun w hs => (x_move (.tmp rfl rfl))) ?_
 refine s_st (k:=7) (v:=.pointer (some ⟨g11,0 + 1,none⟩)) rfl (fun w hs => (fa58_1 (.tmp rfl rfl))) ?_
 refine s_st (k:=8) (v:=.int .i64 a.I) rfl (fun w hs => (ld3 (.tmp rfl rfl) (hs.cell 0 rfl (0 + 1) rfl))) ?_
 refine s_st (k:=9) (v:=.pointer (some ⟨g11,0 + 2,none⟩)) rfl (fun w hs => (fa58_2 (.tmp rfl rfl))) ?_
 refine s_st (k:=10) (v:=.int .i64 a.K) rfl (fun w hs => (ld3 (.tmp rfl rfl) (hs.cell 0 rfl (0 + 2) rfl))) ?_
 refine s_eff (k:=5) rfl ?_
 have hs352:St H _ (netG 64 37 3 5 g_t t vb_t cb_t vt_t ct_t (obj g11 58 [.int .u8 ((a.Kind:Nat):Int),.int .i64 a.I,.int .i64 a.K,.slice A6 n7 c8]::obj g_m 56 (rCells m.n vb_m vt_m m.df m.lost)::row 37 3 vb_m m.ps.length cb_m::row 3 1 vt_m m.bi.length ct_m::(m.pks 5) ++ (L))):=St.netUp [obj g11 58 [.int .u8 ((a.Kind:Nat):Int),.int .i64 a.I,.int .i64 a.K,.slice A6 n7 c8],obj g_m 56 (rCells m.n vb_m vt_m m.df m.lost),row 37 3 vb_m m.ps.length cb_m,row 3 1 vt_m m.bi.length ct_m] hs351
 refine st_c cb19 .func (evs3 (.tmp rfl rfl) (.tmp rfl rfl) (.tmp rfl rfl)) (Turn_spec hs352 ok_t a.I ⟨b2,b3⟩ a.K ⟨b4,b5⟩ ) ?_
 rintro e w353 ⟨nt360,vb355,cb356,vt357,ct358,rfl,ok359,hnt361,hs354⟩
 refine ⟨_,rfl,?_⟩
 have hs362:St H _ (obj g11 58 [.int .u8 ((a.Kind:Nat):Int),.int .i64 a.I,.int .i64 a.K,.slice A6 n7 c8]::obj g_m 56 (rCells m.n vb_m vt_m m.df m.lost)::row 37 3 vb_m m.ps.length cb_m::row 3 1 vt_m m.bi.length ct_m::netG 64 37 3 5 g_t nt360 vb355 cb356 vt357 ct358 ((m.pks 5) ++ (L))):=St.netDown [obj g11 58 [.int .u8 ((a.Kind:Nat):Int),.int .i64 a.I,.int .i64 a.K,.slice A6 n7 c8],obj g_m 56 (rCells m.n vb_m vt_m m.df m.lost),row 37 3 vb_m m.ps.length cb_m,row 3 1 vt_m m.bi.length ct_m] hs354
 refine s_on (S':=fun u => St H u (obj g11 58 [.int .u8 ((a.Kind:Nat):Int),.int .i64 a.I,.int .i64 a.K,.slice A6 n7 c8]::L)) (fun u hu => hu) ((((St.dropG [obj g11 58 [.int .u8 ((a.Kind:Nat):Int),.int .i64 a.I,.int .i64 a.K,.slice A6 n7 c8],obj g_m 56 (rCells m.n vb_m vt_m m.df m.lost),row 37 3 vb_m m.ps.length cb_m,row 3 1 vt_m m.bi.length ct_m] ((St.netUp [obj g11 58 [.int .u8 ((a.Kind:Nat):Int),.int .i64 a.I,.int .i64 a.K,.slice A6 n7 c8],obj g_m 56 (rCells m.n vb_m vt_m m.df m.lost),row 37 3 vb_m m.ps.length cb_m,row 3 1 vt_m m.bi.length ct_m] hs362).netDrop)).pick 1 rfl rfl).drop.pick 1 rfl rfl).drop.pick 1 rfl rfl).drop ?_
 refine s_eff (k:=11) rfl ?_
 have hs363:St H _ (row 3 1 vt_m m.bi.length ct_m::obj g11 58 [.int .u8 ((a.Kind:Nat):Int),.int .i64 a.I,.int .i64 a.K,.slice A6 n7 c8]::obj g_m 56 (rCells m.n vb_m vt_m m.df m.lost)::row 37 3 vb_m m.ps.length cb_m::netG 64 37 3 5 g_t nt360 vb355 cb356 vt357 ct358 ((m.pks 5) ++ (L))):=hs362.pick 3 rfl rfl
 have hs364:St H _ (row 37 3 vb_m m.ps.length cb_m::row 3 1 vt_m m.bi.length ct_m::obj g11 58 [.int .u8 ((a.Kind:Nat):Int),.int .i64 a.I,.int .i64 a.K,.slice A6 n7 c8]::obj g_m 56 (rCells m.n vb_m vt_m m.df m.lost)::netG 64 37 3 5 g_t nt360 vb355 cb356 vt357 ct358 ((m.pks 5) ++ (L))):=hs363.pick 3 rfl rfl
 have hs365:St H _ (obj g_m 56 (rCells m.n vb_m vt_m m.df m.lost)::row 37 3 vb_m m.ps.length cb_m::row 3 1 vt_m m.bi.length ct_m::obj g11 58 [.int .u8 ((a.Kind:Nat):Int),.int .i64 a.I,.int .i64 a.K,.slice A6 n7 c8]::netG 64 37 3 5 g_t nt360 vb355 cb356 vt357 ct358 ((m.pks 5) ++ (L))):=hs364.pick 3 rfl rfl
 have hs367:St H _ (obj g_m 56 (rCells m.n vb_m vt_m m.df m.lost)::row 37 3 vb_m m.ps.length cb_m::row 3 1 vt_m m.bi.length ct_m::(m.pkR 5 a.I) ++ (obj g11 58 [.int .u8 ((a.Kind:Nat):Int),.int .i64 a.I,.int .i64 a.K,.slice A6 n7 c8]::netG 64 37 3 5 g_t nt360 vb355 cb356 vt357 ct358 (((m.rest a.I).map (pkRes 5)) ++ (L)))):=St.pksOpen [obj g_m 56 (rCells m.n vb_m vt_m m.df m.lost),row 37 3 vb_m m.ps.length cb_m,row 3 1 vt_m m.bi.length ct_m] [obj g11 58 [.int .u8 ((a.Kind:Nat):Int),.int .i64 a.I,.int .i64 a.K,.slice A6 n7 c8]] hs365 a.I
 refine st_c cb45 .func (evs3 (.tmp rfl rfl) (.tmp rfl rfl) (.tmp rfl rfl)) (rturn_spec hs367 (m:=m) (RSOk.any ok_m) (i:=a.I) ⟨b2,b3⟩ a.K ⟨b4,b5⟩ ) ?_
 rintro e w368 ⟨nr370,vb371,cb372,vt373,ct374,rfl,ok375,hnr376,hs369⟩
 refine ⟨_,rfl,?_⟩
 have hn1_m:=ok375.n1
 have hn16_m:=ok375.n16
 have hlen_m:=ok375.len
 have hmax_m:=ok375.max
 have hl0_m:=ok375.l0
 have hs377:St H _ (obj g_m 56 (rCells nr370.n vb371 vt373 nr370.df nr370.lost)::row 37 3 vb371 nr370.ps.length cb372::row 3 1 vt373 nr370.bi.length ct374::obj g11 58 [.int .u8 ((a.Kind:Nat):Int),.int .i64 a.I,.int .i64 a.K,.slice A6 n7 c8]::(nr370.pkR 5 a.I) ++ (netG 64 37 3 5 g_t nt360 vb355 cb356 vt357 ct358 (((m.rest a.I).map (pkRes 5)) ++ (L)))):=St.xDown [obj g_m 56 (rCells nr370.n vb371 vt373 nr370.df nr370.lost),row 37 3 vb371 nr370.ps.length cb372,row 3 1 vt373 nr370.bi.length ct374] [obj g11 58 [.int .u8 ((a.Kind:Nat):Int),.int .i64 a.I,.int .i64 a.K,.slice A6 n7 c8]] hs369
 refine s_on (S':=fun u => St H u (obj g11 58 [.int .u8 ((a.Kind:Nat):Int),.int .i64 a.I,.int .i64 a.K,.slice A6 n7 c8]::L)) (fun u hu => hu) (St.dropG [obj g_m 56 (rCells nr370.n vb371 vt373 nr370.df nr370.lost),row 37 3 vb371 nr370.ps.length cb372,row 3 1 vt373 nr370.bi.length ct374,obj g11 58 [.int .u8 ((a.Kind:Nat):Int),.int .i64 a.I,.int .i64 a.K,.slice A6 n7 c8]] ((St.netUp [obj g_m 56 (rCells nr370.n vb371 vt373 nr370.df nr370.lost),row 37 3 vb371 nr370.ps.length cb372,row 3 1 vt373 nr370.bi.length ct374,obj g11 58 [.int .u8 ((a.Kind:Nat):Int),.int .i64 a.I,.int .i64 a.K,.slice A6 n7 c8]] (St.dropG [obj g_m 56 (rCells nr370.n vb371 vt373 nr370.df nr370.lost),row 37 3 vb371 nr370.ps.length cb372,row 3 1 vt373 nr370.bi.length ct374,obj g11 58 [.int .u8 ((a.Kind:Nat):Int),.int .i64 a.I,.int .i64 a.K,.slice A6 n7 c8]] hs377)).netDrop)).drop.drop.drop ?_
 have hs378:St H _ (obj g_m 56 (rCells nr370.n vb371 vt373 nr370.df nr370.lost)::row 37 3 vb371 nr370.ps.length cb372::row 3 1 vt373 nr370.bi.length ct374::obj g11 58 [.int .u8 ((a.Kind:Nat):Int),.int .i64 a.I,.int .i64 a.K,.slice A6 n7 c8]::((m.turnS a.I a.K).pkR 5 a.I) ++ (netG 64 37 3 5 g_t nt360 vb355 cb356 vt357 ct358 (((m.rest a.I).map (pkRes 5)) ++ (L)))):=St.eqL hs377 (by rw [hnr376])
 have hs379:St H _ (obj g_m 56 (rCells nr370.n vb371 vt373 nr370.df nr370.lost)::row 37 3 vb371 nr370.ps.length cb372::row 3 1 vt373 nr370.bi.length ct374::obj g11 58 [.int .u8 ((a.Kind:Nat):Int),.int .i64 a.I,.int .i64 a.K,.slice A6 n7 c8]::netG 64 37 3 5 g_t nt360 vb355 cb356 vt357 ct358 (((m.turnS a.I a.K).pks 5) ++ (L))):=St.turnIn [obj g_m 56 (rCells nr370.n vb371 vt373 nr370.df nr370.lost),row 37 3 vb371 nr370.ps.length cb372,row 3 1 vt373 nr370.bi.length ct374,obj g11 58 [.int .u8 ((a.Kind:Nat):Int),.int .i64 a.I,.int .i64 a.K,.slice A6 n7 c8]] hs378
 skip
 refine s_st (k:=12) (v:=.bool (decide (((t.turnE a.I a.K):Int) = (m.turnE a.I a.K)))) rfl (fun w hs => (x_eql (k:=.i64) (a:=(t.turnE a.I a.K)) (b:=(m.turnE a.I a.K)) (.tmp rfl rfl) (.tmp rfl rfl))) ?_
 refine s_st (k:=13) (v:=.bool (decide (((t.turnE a.I a.K):Int) = (m.turnE a.I a.K)))) rfl (fun w hs => (x_assign (.tmp rfl rfl))) ?_
 refine s_nil ?_
 refine n_then ?_
 refine c_ret ?_
 refine r_block ?_
 refine r_then ?_
 refine leave_ret (res_one (v:=.bool (decide (((t.turnE a.I a.K):Int) = (m.turnE a.I a.K)))) rfl (.mk rfl rfl)) ?_
 have hyes:(decide (((t.turnE a.I a.K):Int) = (m.turnE a.I a.K))) = true:=(decide_eq_true hrel.turn.1)
 rw [hyes]
 have hs380:=((((hs379.pick 3 rfl rfl).drop.pick 2 rfl rfl).pick 2 rfl rfl).pick 2 rfl rfl)
 exact ⟨H,nt360,vb355,cb356,vt357,ct358,nr370,vb371,cb372,vt373,ct374,(Hp.le.refl _),rfl,(NetOk.any ok359),(RSOk.any ok375),(by rw [hnt361,hnr376]; exact hrel.turn.2),(by have h8:=St.netUp [obj g_m 56 (rCells nr370.n vb371 vt373 nr370.df nr370.lost),row 37 3 vb371 nr370.ps.length cb372,row 3 1 vt373 nr370.bi.length ct374] hs380; rw [← hnr376] at h8; exact h8)⟩
 have hp349:¬ (((((a.Kind % 11):Nat):Int):Int) = 7):=of_decide_eq_false hc349
 refine c_cond_f (t:=false) (.tmp rfl (congrArg Value.bool hc349)) rfl ?_
 refine c_seq ?_
 refine c_region ?_
 refine st (v:=.bool (decide (((((a.Kind % 11):Nat):Int):Int) = 8))) (x_eql (k:=.u8) (a:=(((a.Kind % 11):Nat):Int)) (b:=8) (.tmp rfl rfl) .const) ?_
 refine st (v:=.bool (decide (((((a.Kind % 11):Nat):Int):Int) = 8))) (x_assign (.tmp rfl rfl)) ?_
 refine c_nil ?_
 refine n_then ?_
 rcases Bool.eq_false_or_eq_true (decide (((((a.Kind % 11):Nat):Int):Int) = 8)) with hc382 | hc382
 have hp382:((((a.Kind % 11):Nat):Int):Int) = 8:=of_decide_eq_true hc382
 refine c_cond_t (t:=true) (.tmp rfl (congrArg Value.bool hc382)) rfl ?_
 refine c_seq ?_
 refine s_region (L:=obj g11 58 [.int .u8 ((a.Kind:Nat):Int),.int .i64 a.I,.int .i64 a.K,.slice A6 n7 c8]::obj g_m 56 (rCells m.n vb_m vt_m m.df m.lost)::row 37 3 vb_m m.ps.length cb_m::row 3 1 vt_m m.bi.length ct_m::netG 64 37 3 5 g_t t vb_t cb_t vt_t ct_t ((m.pks 5) ++ (L))) (L':=obj g11 58 [.int .u8 ((a.Kind:Nat):Int),.int .i64 a.I,.int .i64 a.K,.slice A6 n7 c8]::L) none [(0,true),(1,true),(2,true),(3,true),(4,true),(6,true),(7,true),(8,true),(9,true),(10,true),(5,false),(11,false),(12,true),(13,true)] mixed hs14 (fun u hu => ((((St.dropG [obj g11 58 [.int .u8 ((a.Kind:Nat):Int),.int .i64 a.I,.int .i64 a.K,.slice A6 n7 c8],obj g_m 56 (rCells m.n vb_m vt_m m.df m.lost),row 37 3 vb_m m.ps.length cb_m,row 3 1 vt_m m.bi.length ct_m] ((St.netUp [obj g11 58 [.int .u8 ((a.Kind:Nat):Int),.int .i64 a.I,.int .i64 a.K,.slice A6 n7 c8],obj g_m 56 (rCells m.n vb_m vt_m m.df m.lost),row 37 3 vb_m m.ps.length cb_m,row 3 1 vt_m m.bi.length ct_m] hu).netDrop)).pick 1 rfl rfl).drop.pick 1 rfl rfl).drop.pick 1 rfl rfl).drop) (by kernel_rfl) ?_
 intro w383 hs384
 refine s_st (k:=0) (v:=.pointer (some ⟨g_t,0,none⟩)) rfl (fun w hs => (x_move (.tmp rfl rfl))) ?_
 refine s_st (k:=1) (v:=.pointer (some ⟨g11,0 + 1,none⟩)) rfl (fun w hs => (fa58_1 (.tmp rfl rfl))) ?_
 refine s_st (k:=2) (v:=.int .i64 a.I) rfl (fun w hs => (ld3 (.tmp rfl rfl) (hs.cell 0 rfl (0 + 1) rfl))) ?_
 refine s_st (k:=3) (v:=.pointer (some ⟨g11,0 + 2,none⟩)) rfl (fun w hs => (fa58_2 (.tmp rfl rfl))) ?_
 refine s_st (k:=4) (v:=.int .i64 a.K) rfl (fun w hs => (ld3 (.tmp rfl rfl) (hs.cell 0 rfl (0 + 2) rfl))) ?_
 refine s_st (k:=6) (v:=.pointer (some ⟨g_m,0,none⟩)) rfl (fun w hs => (x_move (.tmp rfl rfl))) ?_
 refine s_st (k:=7) (v:=.pointer (some ⟨g11,0 + 1,none⟩)) rfl (fun w hs => (fa58_1 (.tmp rfl rfl))) ?_
 refine s_st (k:=8) (v:=.int .i64 a.I) rfl (fun w hs => (ld3 (.tmp rfl rfl) (hs.cell 0 rfl (0 + 1) rfl))) ?_
 refine s_st (k:=9) (v:=.pointer (some ⟨g11,0 + 2,none⟩)) rfl (fun w hs => (fa58_2 (.tmp rfl rfl))) ?_
 refine s_st (k:=10) (v:=.int .i64 a.K) rfl (fun w hs => (ld3 (.tmp rfl rfl) (hs.cell 0 rfl (0 + 2) rfl))) ?_
 refine s_eff (k:=5) rfl ?_
 have hs385:St H _ (netG 64 37 3 5 g_t t vb_t cb_t vt_t ct_t (obj g11 58 [.int .u8 ((a.Kind:Nat):Int),.int .i64 a.I,.int .i64 a.K,.slice A6 n7 c8]::obj g_m 56 (rCells m.n vb_m vt_m m.df m.lost)::row 37 3 vb_m m.ps.length cb_m::row 3 1 vt_m m.bi.length ct_m::(m.pks 5) ++ (L))):=St.netUp [obj g11 58 [.int .u8 ((a.Kind:Nat):Int),.int .i64 a.I,.int .i64 a.K,.slice A6 n7 c8],obj g_m 56 (rCells m.n vb_m vt_m m.df m.lost),row 37 3 vb_m m.ps.length cb_m,row 3 1 vt_m m.bi.length ct_m] hs384
 refine st_c cb13 .func (evs3 (.tmp rfl rfl) (.tmp rfl rfl) (.tmp rfl rfl)) (cut_spec hs385 ok_t a.I ⟨b2,b3⟩ a.K ⟨b4,b5⟩ ) ?_
 rintro e w386 ⟨vb388,cb389,vt390,ct391,rfl,ok392,hs387⟩
 refine ⟨_,rfl,?_⟩
 have hs393:St H _ (obj g11 58 [.int .u8 ((a.Kind:Nat):Int),.int .i64 a.I,.int .i64 a.K,.slice A6 n7 c8]::obj g_m 56 (rCells m.n vb_m vt_m m.df m.lost)::row 37 3 vb_m m.ps.length cb_m::row 3 1 vt_m m.bi.length ct_m::netG 64 37 3 5 g_t (NetS.setH wto t a.I a.K) vb388 cb389 vt390 ct391 ((m.pks 5) ++ (L))):=St.netDown [obj g11 58 [.int .u8 ((a.Kind:Nat):Int),.int .i64 a.I,.int .i64 a.K,.slice A6 n7 c8],obj g_m 56 (rCells m.n vb_m vt_m m.df m.lost),row 37 3 vb_m m.ps.length cb_m,row 3 1 vt_m m.bi.length ct_m] hs387
 refine s_on (S':=fun u => St H u (obj g11 58 [.int .u8 ((a.Kind:Nat):Int),.int .i64 a.I,.int .i64 a.K,.slice A6 n7 c8]::L)) (fun u hu => hu) ((((St.dropG [obj g11 58 [.int .u8 ((a.Kind:Nat):Int),.int .i64 a.I,.int .i64 a.K,.slice A6 n7 c8],obj g_m 56 (rCells m.n vb_m vt_m m.df m.lost),row 37 3 vb_m m.ps.length cb_m,row 3 1 vt_m m.bi.length ct_m] ((St.netUp [obj g11 58 [.int .u8 ((a.Kind:Nat):Int),.int .i64 a.I,.int .i64 a.K,.slice A6 n7 c8],obj g_m 56 (rCells m.n vb_m vt_m m.df m.lost),row 37 3 vb_m m.ps.length cb_m,row 3 1 vt_m m.bi.length ct_m] hs393).netDrop)).pick 1 rfl rfl).drop.pick 1 rfl rfl).drop.pick 1 rfl rfl).drop ?_
 refine s_eff (k:=11) rfl ?_
 have hs394:St H _ (row 3 1 vt_m m.bi.length ct_m::obj g11 58 [.int .u8 ((a.Kind:Nat):Int),.int .i64 a.I,.int .i64 a.K,.slice A6 n7 c8]::obj g_m 56 (rCells m.n vb_m vt_m m.df m.lost)::row 37 3 vb_m m.ps.length cb_m::netG 64 37 3 5 g_t (NetS.setH wto t a.I a.K) vb388 cb389 vt390 ct391 ((m.pks 5) ++ (L))):=hs393.pick 3 rfl rfl
 have hs395:St H _ (row 37 3 vb_m m.ps.length cb_m::row 3 1 vt_m m.bi.length ct_m::obj g11 58 [.int .u8 ((a.Kind:Nat):Int),.int .i64 a.I,.int .i64 a.K,.slice A6 n7 c8]::obj g_m 56 (rCells m.n vb_m vt_m m.df m.lost)::netG 64 37 3 5 g_t (NetS.setH wto t a.I a.K) vb388 cb389 vt390 ct391 ((m.pks 5) ++ (L))):=hs394.pick 3 rfl rfl
 have hs396:St H _ (obj g_m 56 (rCells m.n vb_m vt_m m.df m.lost)::row 37 3 vb_m m.ps.length cb_m::row 3 1 vt_m m.bi.length ct_m::obj g11 58 [.int .u8 ((a.Kind:Nat):Int),.int .i64 a.I,.int .i64 a.K,.slice A6 n7 c8]::netG 64 37 3 5 g_t (NetS.setH wto t a.I a.K) vb388 cb389 vt390 ct391 ((m.pks 5) ++ (L))):=hs395.pick 3 rfl rfl
 refine st_c cb46 .func (evs4 (.tmp rfl rfl) (.tmp rfl rfl) (.tmp rfl rfl) .const) (rset_spec hs396 (m:=m) (RSOk.any ok_m) a.I ⟨b2,b3⟩ a.K ⟨b4,b5⟩ true ) ?_
 rintro e w397 ⟨nr399,vb400,cb401,vt402,ct403,rfl,ok404,hnr405,hs398⟩
 refine ⟨_,rfl,?_⟩
 have hn1_m:=ok404.n1
 have hn16_m:=ok404.n16
 have hlen_m:=ok404.len
 have hmax_m:=ok404.max
 have hl0_m:=ok404.l0
 refine s_on (S':=fun u => St H u (obj g11 58 [.int .u8 ((a.Kind:Nat):Int),.int .i64 a.I,.int .i64 a.K,.slice A6 n7 c8]::L)) (fun u hu => hu) (St.dropG [obj g_m 56 (rCells nr399.n vb400 vt402 nr399.df nr399.lost),row 37 3 vb400 nr399.ps.length cb401,row 3 1 vt402 nr399.bi.length ct403,obj g11 58 [.int .u8 ((a.Kind:Nat):Int),.int .i64 a.I,.int .i64 a.K,.slice A6 n7 c8]] ((St.netUp [obj g_m 56 (rCells nr399.n vb400 vt402 nr399.df nr399.lost),row 37 3 vb400 nr399.ps.length cb401,row 3 1 vt402 nr399.bi.length ct403,obj g11 58 [.int .u8 ((a.Kind:Nat):Int),.int .i64 a.I,.int .i64 a.K,.slice A6 n7 c8]] hs398).netDrop)).drop.drop.drop ?_
 refine s_st (k:=12) (v:=.bool (decide (((if t.setE a.I a.K = true then 0 else 1):Int) = (if m.setE a.I a.K = true then 0 else 1)))) rfl (fun w hs => (x_eql (k:=.i64) (a:=(if t.setE a.I a.K = true then 0 else 1)) (b:=(if m.setE a.I a.K = true then 0 else 1)) (.tmp rfl rfl) (.tmp rfl rfl))) ?_
 refine s_st (k:=13) (v:=.bool (decide (((if t.setE a.I a.K = true then 0 else 1):Int) = (if m.setE a.I a.K = true then 0 else 1)))) rfl (fun w hs => (x_assign (.tmp rfl rfl))) ?_
 refine s_nil ?_
 refine n_then ?_
 refine c_ret ?_
 refine r_block ?_
 refine r_then ?_
 refine leave_ret (res_one (v:=.bool (decide (((if t.setE a.I a.K = true then 0 else 1):Int) = (if m.setE a.I a.K = true then 0 else 1)))) rfl (.mk rfl rfl)) ?_
 have hyes:(decide (((if t.setE a.I a.K = true then 0 else 1):Int) = (if m.setE a.I a.K = true then 0 else 1))) = true:=(decide_eq_true (by rw [hrel.setE]))
 rw [hyes]
 have hs406:=((((hs398.pick 3 rfl rfl).drop.pick 2 rfl rfl).pick 2 rfl rfl).pick 2 rfl rfl)
 exact ⟨H,(NetS.setH wto t a.I a.K),vb388,cb389,vt390,ct391,nr399,vb400,cb401,vt402,ct403,(Hp.le.refl _),rfl,(NetOk.any ok392),(RSOk.any ok404),(by rw [hnr405]; exact hrel.cut),(by have h8:=St.netUp [obj g_m 56 (rCells nr399.n vb400 vt402 nr399.df nr399.lost),row 37 3 vb400 nr399.ps.length cb401,row 3 1 vt402 nr399.bi.length ct403] hs406; rw [show m.pks 5 = RS.pks nr399 5 by rw [hnr405]; exact set_pks.symm] at h8; exact h8)⟩
 have hp382:¬ (((((a.Kind % 11):Nat):Int):Int) = 8):=of_decide_eq_false hc382
 refine c_cond_f (t:=false) (.tmp rfl (congrArg Value.bool hc382)) rfl ?_
 refine c_seq ?_
 refine c_region ?_
 refine st (v:=.bool (decide (((((a.Kind % 11):Nat):Int):Int) = 9))) (x_eql (k:=.u8) (a:=(((a.Kind % 11):Nat):Int)) (b:=9) (.tmp rfl rfl) .const) ?_
 refine st (v:=.bool (decide (((((a.Kind % 11):Nat):Int):Int) = 9))) (x_assign (.tmp rfl rfl)) ?_
 refine c_nil ?_
 refine n_then ?_
 rcases Bool.eq_false_or_eq_true (decide (((((a.Kind % 11):Nat):Int):Int) = 9)) with hc408 | hc408
 have hp408:((((a.Kind % 11):Nat):Int):Int) = 9:=of_decide_eq_true hc408
 refine c_cond_t (t:=true) (.tmp rfl (congrArg Value.bool hc408)) rfl ?_
 refine c_seq ?_
 refine s_region (L:=obj g11 58 [.int .u8 ((a.Kind:Nat):Int),.int .i64 a.I,.int .i64 a.K,.slice A6 n7 c8]::obj g_m 56 (rCells m.n vb_m vt_m m.df m.lost)::row 37 3 vb_m m.ps.length cb_m::row 3 1 vt_m m.bi.length ct_m::netG 64 37 3 5 g_t t vb_t cb_t vt_t ct_t ((m.pks 5) ++ (L))) (L':=obj g11 58 [.int .u8 ((a.Kind:Nat):Int),.int .i64 a.I,.int .i64 a.K,.slice A6 n7 c8]::L) none [(0,true),(1,true),(2,true),(3,true),(4,true),(6,true),(7,true),(8,true),(9,true),(10,true),(5,false),(11,false),(12,true),(13,true)] mixed hs14 (fun u hu => ((((St.dropG [obj g11 58 [.int .u8 ((a.Kind:Nat):Int),.int .i64 a.I,.int .i64 a.K,.slice A6 n7 c8],obj g_m 56 (rCells m.n vb_m vt_m m.df m.lost),row 37 3 vb_m m.ps.length cb_m,row 3 1 vt_m m.bi.length ct_m] ((St.netUp [obj g11 58 [.int .u8 ((a.Kind:Nat):Int),.int .i64 a.I,.int .i64 a.K,.slice A6 n7 c8],obj g_m 56 (rCells m.n vb_m vt_m m.df m.lost),row 37 3 vb_m m.ps.length cb_m,row 3 1 vt_m m.bi.length ct_m] hu).netDrop)).pick 1 rfl rfl).drop.pick 1 rfl rfl).drop.pick 1 rfl rfl).drop) (by kernel_rfl) ?_
 intro w409 hs410
 refine s_st (k:=0) (v:=.pointer (some ⟨g_t,0,none⟩)) rfl (fun w hs => (x_move (.tmp rfl rfl))) ?_
 refine s_st (k:=1) (v:=.pointer (some ⟨g11,0 + 1,none⟩)) rfl (fun w hs => (fa58_1 (.tmp rfl rfl))) ?_
 refine s_st (k:=2) (v:=.int .i64 a.I) rfl (fun w hs => (ld3 (.tmp rfl rfl) (hs.cell 0 rfl (0 + 1) rfl))) ?_
 refine s_st (k:=3) (v:=.pointer (some ⟨g11,0 + 2,none⟩)) rfl (fun w hs => (fa58_2 (.tmp rfl rfl))) ?_
 refine s_st (k:=4) (v:=.int .i64 a.K) rfl (fun w hs => (ld3 (.tmp rfl rfl) (hs.cell 0 rfl (0 + 2) rfl))) ?_
 refine s_st (k:=6) (v:=.pointer (some ⟨g_m,0,none⟩)) rfl (fun w hs => (x_move (.tmp rfl rfl))) ?_
 refine s_st (k:=7) (v:=.pointer (some ⟨g11,0 + 1,none⟩)) rfl (fun w hs => (fa58_1 (.tmp rfl rfl))) ?_
 refine s_st (k:=8) (v:=.int .i64 a.I) rfl (fun w hs => (ld3 (.tmp rfl rfl) (hs.cell 0 rfl (0 + 1) rfl))) ?_
 refine s_st (k:=9) (v:=.pointer (some ⟨g11,0 + 2,none⟩)) rfl (fun w hs => (fa58_2 (.tmp rfl rfl))) ?_
 refine s_st (k:=10) (v:=.int .i64 a.K) rfl (fun w hs => (ld3 (.tmp rfl rfl) (hs.cell 0 rfl (0 + 2) rfl))) ?_
 refine s_eff (k:=5) rfl ?_
 have hs411:St H _ (netG 64 37 3 5 g_t t vb_t cb_t vt_t ct_t (obj g11 58 [.int .u8 ((a.Kind:Nat):Int),.int .i64 a.I,.int .i64 a.K,.slice A6 n7 c8]::obj g_m 56 (rCells m.n vb_m vt_m m.df m.lost)::row 37 3 vb_m m.ps.length cb_m::row 3 1 vt_m m.bi.length ct_m::(m.pks 5) ++ (L))):=St.netUp [obj g11 58 [.int .u8 ((a.Kind:Nat):Int),.int .i64 a.I,.int .i64 a.K,.slice A6 n7 c8],obj g_m 56 (rCells m.n vb_m vt_m m.df m.lost),row 37 3 vb_m m.ps.length cb_m,row 3 1 vt_m m.bi.length ct_m] hs410
 refine st_c cb24 .func (evs3 (.tmp rfl rfl) (.tmp rfl rfl) (.tmp rfl rfl)) (join_spec hs411 ok_t a.I ⟨b2,b3⟩ a.K ⟨b4,b5⟩ ) ?_
 rintro e w412 ⟨vb414,cb415,vt416,ct417,rfl,ok418,hs413⟩
 refine ⟨_,rfl,?_⟩
 have hs419:St H _ (obj g11 58 [.int .u8 ((a.Kind:Nat):Int),.int .i64 a.I,.int .i64 a.K,.slice A6 n7 c8]::obj g_m 56 (rCells m.n vb_m vt_m m.df m.lost)::row 37 3 vb_m m.ps.length cb_m::row 3 1 vt_m m.bi.length ct_m::netG 64 37 3 5 g_t (NetS.setH wth t a.I a.K) vb414 cb415 vt416 ct417 ((m.pks 5) ++ (L))):=St.netDown [obj g11 58 [.int .u8 ((a.Kind:Nat):Int),.int .i64 a.I,.int .i64 a.K,.slice A6 n7 c8],obj g_m 56 (rCells m.n vb_m vt_m m.df m.lost),row 37 3 vb_m m.ps.length cb_m,row 3 1 vt_m m.bi.length ct_m] hs413
 refine s_on (S':=fun u => St H u (obj g11 58 [.int .u8 ((a.Kind:Nat):Int),.int .i64 a.I,.int .i64 a.K,.slice A6 n7 c8]::L)) (fun u hu => hu) ((((St.dropG [obj g11 58 [.int .u8 ((a.Kind:Nat):Int),.int .i64 a.I,.int .i64 a.K,.slice A6 n7 c8],obj g_m 56 (rCells m.n vb_m vt_m m.df m.lost),row 37 3 vb_m m.ps.length cb_m,row 3 1 vt_m m.bi.length ct_m] ((St.netUp [obj g11 58 [.int .u8 ((a.Kind:Nat):Int),.int .i64 a.I,.int .i64 a.K,.slice A6 n7 c8],obj g_m 56 (rCells m.n vb_m vt_m m.df m.lost),row 37 3 vb_m m.ps.length cb_m,row 3 1 vt_m m.bi.length ct_m] hs419).netDrop)).pick 1 rfl rfl).drop.pick 1 rfl rfl).drop.pick 1 rfl rfl).drop ?_
 refine s_eff (k:=11) rfl ?_
 have hs420:St H _ (row 3 1 vt_m m.bi.length ct_m::obj g11 58 [.int .u8 ((a.Kind:Nat):Int),.int .i64 a.I,.int .i64 a.K,.slice A6 n7 c8]::obj g_m 56 (rCells m.n vb_m vt_m m.df m.lost)::row 37 3 vb_m m.ps.length cb_m::netG 64 37 3 5 g_t (NetS.setH wth t a.I a.K) vb414 cb415 vt416 ct417 ((m.pks 5) ++ (L))):=hs419.pick 3 rfl rfl
 have hs421:St H _ (row 37 3 vb_m m.ps.length cb_m::row 3 1 vt_m m.bi.length ct_m::obj g11 58 [.int .u8 ((a.Kind:Nat):Int),.int .i64 a.I,.int .i64 a.K,.slice A6 n7 c8]::obj g_m 56 (rCells m.n vb_m vt_m m.df m.lost)::netG 64 37 3 5 g_t (NetS.setH wth t a.I a.K) vb414 cb415 vt416 ct417 ((m.pks 5) ++ (L))):=hs420.pick 3 rfl rfl
 have hs422:St H _ (obj g_m 56 (rCells m.n vb_m vt_m m.df m.lost)::row 37 3 vb_m m.ps.length cb_m::row 3 1 vt_m m.bi.length ct_m::obj g11 58 [.int .u8 ((a.Kind:Nat):Int),.int .i64 a.I,.int .i64 a.K,.slice A6 n7 c8]::netG 64 37 3 5 g_t (NetS.setH wth t a.I a.K) vb414 cb415 vt416 ct417 ((m.pks 5) ++ (L))):=hs421.pick 3 rfl rfl
 refine st_c cb46 .func (evs4 (.tmp rfl rfl) (.tmp rfl rfl) (.tmp rfl rfl) .const) (rset_spec hs422 (m:=m) (RSOk.any ok_m) a.I ⟨b2,b3⟩ a.K ⟨b4,b5⟩ false ) ?_
 rintro e w423 ⟨nr425,vb426,cb427,vt428,ct429,rfl,ok430,hnr431,hs424⟩
 refine ⟨_,rfl,?_⟩
 have hn1_m:=ok430.n1
 have hn16_m:=ok430.n16
 have hlen_m:=ok430.len
 have hmax_m:=ok430.max
 have hl0_m:=ok430.l0
 refine s_on (S':=fun u => St H u (obj g11 58 [.int .u8 ((a.Kind:Nat):Int),.int .i64 a.I,.int .i64 a.K,.slice A6 n7 c8]::L)) (fun u hu => hu) (St.dropG [obj g_m 56 (rCells nr425.n vb426 vt428 nr425.df nr425.lost),row 37 3 vb426 nr425.ps.length cb427,row 3 1 vt428 nr425.bi.length ct429,obj g11 58 [.int .u8 ((a.Kind:Nat):Int),.int .i64 a.I,.int .i64 a.K,.slice A6 n7 c8]] ((St.netUp [obj g_m 56 (rCells nr425.n vb426 vt428 nr425.df nr425.lost),row 37 3 vb426 nr425.ps.length cb427,row 3 1 vt428 nr425.bi.length ct429,obj g11 58 [.int .u8 ((a.Kind:Nat):Int),.int .i64 a.I,.int .i64 a.K,.slice A6 n7 c8]] hs424).netDrop)).drop.drop.drop ?_
 refine s_st (k:=12) (v:=.bool (decide (((if t.setE a.I a.K = true then 0 else 1):Int) = (if m.setE a.I a.K = true then 0 else 1)))) rfl (fun w hs => (x_eql (k:=.i64) (a:=(if t.setE a.I a.K = true then 0 else 1)) (b:=(if m.setE a.I a.K = true then 0 else 1)) (.tmp rfl rfl) (.tmp rfl rfl))) ?_
 refine s_st (k:=13) (v:=.bool (decide (((if t.setE a.I a.K = true then 0 else 1):Int) = (if m.setE a.I a.K = true then 0 else 1)))) rfl (fun w hs => (x_assign (.tmp rfl rfl))) ?_
 refine s_nil ?_
 refine n_then ?_
 refine c_ret ?_
 refine r_block ?_
 refine r_then ?_
 refine leave_ret (res_one (v:=.bool (decide (((if t.setE a.I a.K = true then 0 else 1):Int) = (if m.setE a.I a.K = true then 0 else 1)))) rfl (.mk rfl rfl)) ?_
 have hyes:(decide (((if t.setE a.I a.K = true then 0 else 1):Int) = (if m.setE a.I a.K = true then 0 else 1))) = true:=(decide_eq_true (by rw [hrel.setE]))
 rw [hyes]
 have hs432:=((((hs424.pick 3 rfl rfl).drop.pick 2 rfl rfl).pick 2 rfl rfl).pick 2 rfl rfl)
 exact ⟨H,(NetS.setH wth t a.I a.K),vb414,cb415,vt416,ct417,nr425,vb426,cb427,vt428,ct429,(Hp.le.refl _),rfl,(NetOk.any ok418),(RSOk.any ok430),(by rw [hnr431]; exact hrel.join),(by have h8:=St.netUp [obj g_m 56 (rCells nr425.n vb426 vt428 nr425.df nr425.lost),row 37 3 vb426 nr425.ps.length cb427,row 3 1 vt428 nr425.bi.length ct429] hs432; rw [show m.pks 5 = RS.pks nr425 5 by rw [hnr431]; exact set_pks.symm] at h8; exact h8)⟩
 have hp408:¬ (((((a.Kind % 11):Nat):Int):Int) = 9):=of_decide_eq_false hc408
 refine c_cond_f (t:=false) (.tmp rfl (congrArg Value.bool hc408)) rfl ?_
 refine c_skip ?_
 refine n_block ?_
 refine n_then ?_
 refine c_seq ?_
 refine c_region ?_
 refine st (v:=.pointer (some ⟨g_t,0,none⟩)) (x_move (.tmp rfl rfl)) ?_
 refine st (v:=.pointer (some ⟨g11,0 + 1,none⟩)) (fa58_1 (.tmp rfl rfl)) ?_
 refine st (v:=.int .i64 a.I) (ld3 (.tmp rfl rfl) (hs14.cell 0 rfl (0 + 1) rfl)) ?_
 have hs434:St H _ (netG 64 37 3 5 g_t t vb_t cb_t vt_t ct_t (obj g11 58 [.int .u8 ((a.Kind:Nat):Int),.int .i64 a.I,.int .i64 a.K,.slice A6 n7 c8]::obj g_m 56 (rCells m.n vb_m vt_m m.df m.lost)::row 37 3 vb_m m.ps.length cb_m::row 3 1 vt_m m.bi.length ct_m::(m.pks 5) ++ (L))):=St.netUp [obj g11 58 [.int .u8 ((a.Kind:Nat):Int),.int .i64 a.I,.int .i64 a.K,.slice A6 n7 c8],obj g_m 56 (rCells m.n vb_m vt_m m.df m.lost),row 37 3 vb_m m.ps.length cb_m,row 3 1 vt_m m.bi.length ct_m] hs14
 refine st_c cb21 .func (evs2 (.tmp rfl rfl) (.tmp rfl rfl)) (Peek_spec hs434 ok_t a.I ⟨b2,b3⟩ ) ?_
 rintro e w435 ⟨v437,rfl,⟨b442,b443⟩,⟨b444,b445⟩,sm438,ok439,lb440,hs436⟩
 refine ⟨_,rfl,?_⟩
 have hs446:=St.netUp [row 5 1 v437 ((t.peekP a.I).Bytes.length) (((t.peekP a.I).Bytes).map encB)] hs436
 have hs447:St H _ (row 5 1 v437 ((t.peekP a.I).Bytes.length) (((t.peekP a.I).Bytes).map encB)::obj g11 58 [.int .u8 ((a.Kind:Nat):Int),.int .i64 a.I,.int .i64 a.K,.slice A6 n7 c8]::obj g_m 56 (rCells m.n vb_m vt_m m.df m.lost)::row 37 3 vb_m m.ps.length cb_m::row 3 1 vt_m m.bi.length ct_m::netG 64 37 3 5 g_t t vb_t cb_t vt_t ct_t ((m.pks 5) ++ (L))):=St.netDown [row 5 1 v437 ((t.peekP a.I).Bytes.length) (((t.peekP a.I).Bytes).map encB),obj g11 58 [.int .u8 ((a.Kind:Nat):Int),.int .i64 a.I,.int .i64 a.K,.slice A6 n7 c8],obj g_m 56 (rCells m.n vb_m vt_m m.df m.lost),row 37 3 vb_m m.ps.length cb_m,row 3 1 vt_m m.bi.length ct_m] hs446
 refine st (v:=.tuple #[.agg #[.int .i64 ((t.peekP a.I).From),.int .i64 ((t.peekP a.I).To),v437],.int .i64 (t.lookE a.I)]) (x_move (.tmp rfl rfl)) ?_
 refine st (v:=.agg #[.int .i64 ((t.peekP a.I).From),.int .i64 ((t.peekP a.I).To),v437]) (x_extract (.tmp rfl rfl) (i:=0) rfl) ?_
 refine st (v:=.int .i64 (t.lookE a.I)) (x_extract (.tmp rfl rfl) (i:=1) rfl) ?_
 refine st_m (al37 (cs:=[.int .i64 0,.int .i64 0,.slice none 0 0]) hs447 rfl) ?_
 rintro _ w449 ⟨g448,rfl,hs451⟩
 refine st_m0 (sto37 (cs':=[.int .i64 ((t.peekP a.I).From),.int .i64 ((t.peekP a.I).To),v437]) (i:=0) hs451 (v:=.agg #[.int .i64 ((t.peekP a.I).From),.int .i64 ((t.peekP a.I).To),v437]) (.tmp rfl rfl) (.tmp rfl rfl) rfl (Nat.le_of_ble_eq_true rfl) (oneA (allC rfl (allC rfl (allC (RowOk.oneC ok439) rfl)))) rfl) ?_
 rintro w452 hs454
 refine st (v:=.int .i64 (t.lookE a.I)) (x_assign (.tmp rfl rfl)) ?_
 refine c_nil ?_
 refine n_then ?_
 refine c_seq ?_
 refine c_seq ?_
 refine q_region mixed hs454 (by kernel_rfl) ?_
 refine q_st (v:=.pointer (some ⟨g11,0 + 1,none⟩)) (fun w hs => (fa58_1 (.tmp rfl rfl))) ?_
 refine q_st (v:=.int .i64 a.I) (fun w hs => (ld3 (.tmp rfl rfl) (hs.cell 2 rfl (0 + 1) rfl))) ?_
 refine q_st (v:=.bool (decide ((a.I:Int) < 0))) (fun w hs => (x_lss (k:=.i64) (a:=a.I) (b:=0) (.tmp rfl rfl) .const)) ?_
 refine q_st (v:=.bool (decide ((a.I:Int) < 0))) (fun w hs => (x_move (.tmp rfl rfl))) ?_
 rcases Bool.eq_false_or_eq_true (decide ((a.I:Int) < 0)) with hc455 | hc455
 have hp455:(a.I:Int) < 0:=of_decide_eq_true hc455
 refine q_no (yl (dj:=137) (b:=true) rfl rfl (congrArg Value.bool hc455)) rfl ?_
 refine q_no (yl (dj:=137) (b:=true) rfl rfl (congrArg Value.bool hc455)) rfl ?_
 refine q_no (yl (dj:=137) (b:=true) rfl rfl (congrArg Value.bool hc455)) rfl ?_
 refine q_no (yl (dj:=137) (b:=true) rfl rfl (congrArg Value.bool hc455)) rfl ?_
 refine q_no (yl (dj:=137) (b:=true) rfl rfl (congrArg Value.bool hc455)) rfl ?_
 refine q_no (yl (dj:=137) (b:=true) rfl rfl (congrArg Value.bool hc455)) rfl ?_
 refine q_no (yl (dj:=137) (b:=true) rfl rfl (congrArg Value.bool hc455)) rfl ?_
 refine q_no (yl (dj:=137) (b:=true) rfl rfl (congrArg Value.bool hc455)) rfl ?_
 refine q_st (v:=.bool true) (fun w hs => (x_pick_t (.tmp rfl (congrArg Value.bool hc455)) .const)) ?_
 refine q_nil ?_
 intro w hs456
 refine n_then ?_
 refine c_cond_t (t:=true) (.tmp rfl rfl) rfl ?_
 refine c_seq ?_
 refine c_region ?_
 have hni:¬ m.inn a.I:=by unfold RS.inn; omega
 have hpk0:t.peekP a.I = ⟨0,0,[]⟩:=peek_no (fun h => hni (hrel.inn.1 h))
 skip
 refine st (v:=.int .i64 (t.lookE a.I)) (x_move (.tmp rfl rfl)) ?_
 refine st (v:=.bool (decide (((t.lookE a.I):Int) = 1))) (x_eql (k:=.i64) (a:=(t.lookE a.I)) (b:=1) (.tmp rfl rfl) .const) ?_
 refine st (v:=.bool (decide (((t.lookE a.I):Int) = 1))) (x_move (.tmp rfl rfl)) ?_
 have hc457:(decide (((t.lookE a.I):Int) = 1)) = true:=(decide_eq_true (hrel.look.trans (rdrop_no hni).1))
 refine g_yes (yl (dj:=149) (b:=true) rfl rfl (congrArg Value.bool hc457)) ?_
 refine st (v:=.agg #[.int .i64 ((t.peekP a.I).From),.int .i64 ((t.peekP a.I).To),v437]) (ld37 (cs:=[.int .i64 ((t.peekP a.I).From),.int .i64 ((t.peekP a.I).To),v437]) (.tmp rfl rfl) (hs456.at_ 0 rfl (0) rfl) rfl) ?_
 refine g_yes (yl (dj:=149) (b:=true) rfl rfl (congrArg Value.bool hc457)) ?_
 refine st (v:=.agg #[.int .i64 0,.int .i64 0,.slice none 0 0]) (bl37 (ps:=[]) Evp.nil rfl) ?_
 refine g_yes (yl (dj:=149) (b:=true) rfl rfl (congrArg Value.bool hc457)) ?_
 have hs458:St H _ (row 5 1 (.slice none 0 0) 0 (([]:List Nat).map encB)::obj g448 37 [.int .i64 ((t.peekP a.I).From),.int .i64 ((t.peekP a.I).To),v437]::row 5 1 v437 ((t.peekP a.I).Bytes.length) (((t.peekP a.I).Bytes).map encB)::obj g11 58 [.int .u8 ((a.Kind:Nat):Int),.int .i64 a.I,.int .i64 a.K,.slice A6 n7 c8]::obj g_m 56 (rCells m.n vb_m vt_m m.df m.lost)::row 37 3 vb_m m.ps.length cb_m::row 3 1 vt_m m.bi.length ct_m::netG 64 37 3 5 g_t t vb_t cb_t vt_t ct_t ((m.pks 5) ++ (L))):=hs456.rowNil 5 1
 have hs460:St H _ (row 5 1 v437 ((t.peekP a.I).Bytes.length) (((t.peekP a.I).Bytes).map encB)::row 5 1 (.slice none 0 0) 0 (([]:List Nat).map encB)::obj g448 37 [.int .i64 ((t.peekP a.I).From),.int .i64 ((t.peekP a.I).To),v437]::obj g11 58 [.int .u8 ((a.Kind:Nat):Int),.int .i64 a.I,.int .i64 a.K,.slice A6 n7 c8]::obj g_m 56 (rCells m.n vb_m vt_m m.df m.lost)::row 37 3 vb_m m.ps.length cb_m::row 3 1 vt_m m.bi.length ct_m::netG 64 37 3 5 g_t t vb_t cb_t vt_t ct_t ((m.pks 5) ++ (L))):=hs458.pick 2 rfl rfl
 refine st_c cb42 .func (evs2 (.tmp rfl rfl) (.tmp rfl rfl)) (rsame_spec hs460 (a:=(GPacket.mk ((t.peekP a.I).From) ((t.peekP a.I).To) ((t.peekP a.I).Bytes))) ⟨b442,b443⟩ ⟨b444,b445⟩ sm438 ok439 (b:=(GPacket.mk 0 0 ([]:List Nat))) (show IB 0 from ⟨by omega,by omega⟩) (show IB 0 from ⟨by omega,by omega⟩) Small.nil (RowOk.nil 1) ) ?_
 rintro e w461 ⟨rfl,hs462⟩
 refine ⟨_,rfl,?_⟩
 refine st (v:=.bool (decide ((GPacket.mk ((t.peekP a.I).From) ((t.peekP a.I).To) ((t.peekP a.I).Bytes)) = (GPacket.mk 0 0 ([]:List Nat))))) (x_pick_t (.tmp rfl (congrArg Value.bool hc457)) (.tmp rfl rfl)) ?_
 refine st (v:=.bool (decide ((GPacket.mk ((t.peekP a.I).From) ((t.peekP a.I).To) ((t.peekP a.I).Bytes)) = (GPacket.mk 0 0 ([]:List Nat))))) (x_assign (.tmp rfl rfl)) ?_
 refine c_nil ?_
 refine n_then ?_
 refine c_ret ?_
 refine r_then ?_
 refine leave_ret (res_one (v:=.bool (decide ((GPacket.mk ((t.peekP a.I).From) ((t.peekP a.I).To) ((t.peekP a.I).Bytes)) = (GPacket.mk 0 0 ([]:List Nat))))) rfl (.mk rfl rfl)) ?_
 have hyes:(decide ((GPacket.mk ((t.peekP a.I).From) ((t.peekP a.I).To) ((t.peekP a.I).Bytes)) = (GPacket.mk 0 0 ([]:List Nat)))) = true:=(decide_eq_true (by rw [hpk0]))
 rw [hyes]
 have hs463:=(((hs462.drop.drop.drop.drop.pick 2 rfl rfl).pick 2 rfl rfl).pick 2 rfl rfl)
 exact ⟨H,t,vb_t,cb_t,vt_t,ct_t,m,vb_m,cb_m,vt_m,ct_m,(Hp.le.refl _),rfl,(NetOk.any ok_t),(RSOk.any ok_m),(hrel.up (by omega)),St.netUp [obj g_m 56 (rCells m.n vb_m vt_m m.df m.lost),row 37 3 vb_m m.ps.length cb_m,row 3 1 vt_m m.bi.length ct_m] hs463⟩
 have hp455:¬ ((a.I:Int) < 0):=of_decide_eq_false hc455
 refine q_yes (yl (dj:=137) (b:=false) rfl rfl (congrArg Value.bool hc455)) ?_
 refine q_st (v:=.pointer (some ⟨g11,0 + 1,none⟩)) (fun w hs => (fa58_1 (.tmp rfl rfl))) ?_
 refine q_yes (yl (dj:=137) (b:=false) rfl rfl (congrArg Value.bool hc455)) ?_
 refine q_st (v:=.int .i64 a.I) (fun w hs => (ld3 (.tmp rfl rfl) (hs.cell 2 rfl (0 + 1) rfl))) ?_
 refine q_yes (yl (dj:=137) (b:=false) rfl rfl (congrArg Value.bool hc455)) ?_
 refine q_st (v:=.pointer (some ⟨g_m,0,none⟩)) (fun w hs => (x_move (.tmp rfl rfl))) ?_
 refine q_yes (yl (dj:=137) (b:=false) rfl rfl (congrArg Value.bool hc455)) ?_
 refine q_st (v:=.pointer (some ⟨g_m,0,none⟩)) (fun w hs => (x_nilCheck (.tmp rfl rfl))) ?_
 refine q_yes (yl (dj:=137) (b:=false) rfl rfl (congrArg Value.bool hc455)) ?_
 refine q_st (v:=.pointer (some ⟨g_m,0 + 1,none⟩)) (fun w hs => (fa56_1 (.tmp rfl rfl))) ?_
 refine q_yes (yl (dj:=137) (b:=false) rfl rfl (congrArg Value.bool hc455)) ?_
 refine q_st (v:=vb_m) (fun w hs => (ld51 (.tmp rfl rfl) (hs.cell 3 rfl (0 + 1) rfl))) ?_
 refine q_yes (yl (dj:=137) (b:=false) rfl rfl (congrArg Value.bool hc455)) ?_
 obtain ⟨A465,c466,hv467,hc468⟩:=ok_m.okb.slice
 refine q_st (v:=.int .i64 ((m.ps.length:Nat):Int)) (fun w hs => (x_len (n:=m.ps.length) Tryd.underlying51 (.tmp rfl hv467))) ?_
 refine q_yes (yl (dj:=137) (b:=false) rfl rfl (congrArg Value.bool hc455)) ?_
 refine q_st (v:=.bool (decide ((((m.ps.length:Nat):Int):Int) ≤ a.I))) (fun w hs => (x_geq (k:=.i64) (a:=a.I) (b:=((m.ps.length:Nat):Int)) (.tmp rfl rfl) (.tmp rfl rfl))) ?_
 refine q_st (v:=.bool (decide ((((m.ps.length:Nat):Int):Int) ≤ a.I))) (fun w hs => (x_pick_f (.tmp rfl (congrArg Value.bool hc455)) (.tmp rfl rfl))) ?_
 refine q_nil ?_
 intro w hs469
 refine n_then ?_
 rcases Bool.eq_false_or_eq_true (decide ((((m.ps.length:Nat):Int):Int) ≤ a.I)) with hc470 | hc470
 have hp470:(((m.ps.length:Nat):Int):Int) ≤ a.I:=of_decide_eq_true hc470
 refine c_cond_t (t:=true) (.tmp rfl (congrArg Value.bool hc470)) rfl ?_
 refine c_seq ?_
 refine c_region ?_
 have hni:¬ m.inn a.I:=by unfold RS.inn; omega
 have hpk0:t.peekP a.I = ⟨0,0,[]⟩:=peek_no (fun h => hni (hrel.inn.1 h))
 skip
 refine st (v:=.int .i64 (t.lookE a.I)) (x_move (.tmp rfl rfl)) ?_
 refine st (v:=.bool (decide (((t.lookE a.I):Int) = 1))) (x_eql (k:=.i64) (a:=(t.lookE a.I)) (b:=1) (.tmp rfl rfl) .const) ?_
 refine st (v:=.bool (decide (((t.lookE a.I):Int) = 1))) (x_move (.tmp rfl rfl)) ?_
 have hc471:(decide (((t.lookE a.I):Int) = 1)) = true:=(decide_eq_true (hrel.look.trans (rdrop_no hni).1))
 refine g_yes (yl (dj:=149) (b:=true) rfl rfl (congrArg Value.bool hc471)) ?_
 refine st (v:=.agg #[.int .i64 ((t.peekP a.I).From),.int .i64 ((t.peekP a.I).To),v437]) (ld37 (cs:=[.int .i64 ((t.peekP a.I).From),.int .i64 ((t.peekP a.I).To),v437]) (.tmp rfl rfl) (hs469.at_ 0 rfl (0) rfl) rfl) ?_
 refine g_yes (yl (dj:=149) (b:=true) rfl rfl (congrArg Value.bool hc471)) ?_
 refine st (v:=.agg #[.int .i64 0,.int .i64 0,.slice none 0 0]) (bl37 (ps:=[]) Evp.nil rfl) ?_
 refine g_yes (yl (dj:=149) (b:=true) rfl rfl (congrArg Value.bool hc471)) ?_
 have hs472:St H _ (row 5 1 (.slice none 0 0) 0 (([]:List Nat).map encB)::obj g448 37 [.int .i64 ((t.peekP a.I).From),.int .i64 ((t.peekP a.I).To),v437]::row 5 1 v437 ((t.peekP a.I).Bytes.length) (((t.peekP a.I).Bytes).map encB)::obj g11 58 [.int .u8 ((a.Kind:Nat):Int),.int .i64 a.I,.int .i64 a.K,.slice A6 n7 c8]::obj g_m 56 (rCells m.n vb_m vt_m m.df m.lost)::row 37 3 vb_m m.ps.length cb_m::row 3 1 vt_m m.bi.length ct_m::netG 64 37 3 5 g_t t vb_t cb_t vt_t ct_t ((m.pks 5) ++ (L))):=hs469.rowNil 5 1
 have hs474:St H _ (row 5 1 v437 ((t.peekP a.I).Bytes.length) (((t.peekP a.I).Bytes).map encB)::row 5 1 (.slice none 0 0) 0 (([]:List Nat).map encB)::obj g448 37 [.int .i64 ((t.peekP a.I).From),.int .i64 ((t.peekP a.I).To),v437]::obj g11 58 [.int .u8 ((a.Kind:Nat):Int),.int .i64 a.I,.int .i64 a.K,.slice A6 n7 c8]::obj g_m 56 (rCells m.n vb_m vt_m m.df m.lost)::row 37 3 vb_m m.ps.length cb_m::row 3 1 vt_m m.bi.length ct_m::netG 64 37 3 5 g_t t vb_t cb_t vt_t ct_t ((m.pks 5) ++ (L))):=hs472.pick 2 rfl rfl
 refine st_c cb42 .func (evs2 (.tmp rfl rfl) (.tmp rfl rfl)) (rsame_spec hs474 (a:=(GPacket.mk ((t.peekP a.I).From) ((t.peekP a.I).To) ((t.peekP a.I).Bytes))) ⟨b442,b443⟩ ⟨b444,b445⟩ sm438 ok439 (b:=(GPacket.mk 0 0 ([]:List Nat))) (show IB 0 from ⟨by omega,by omega⟩) (show IB 0 from ⟨by omega,by omega⟩) Small.nil (RowOk.nil 1) ) ?_
 rintro e w475 ⟨rfl,hs476⟩
 refine ⟨_,rfl,?_⟩
 refine st (v:=.bool (decide ((GPacket.mk ((t.peekP a.I).From) ((t.peekP a.I).To) ((t.peekP a.I).Bytes)) = (GPacket.mk 0 0 ([]:List Nat))))) (x_pick_t (.tmp rfl (congrArg Value.bool hc471)) (.tmp rfl rfl)) ?_
 refine st (v:=.bool (decide ((GPacket.mk ((t.peekP a.I).From) ((t.peekP a.I).To) ((t.peekP a.I).Bytes)) = (GPacket.mk 0 0 ([]:List Nat))))) (x_assign (.tmp rfl rfl)) ?_
 refine c_nil ?_
 refine n_then ?_
 refine c_ret ?_
 refine r_then ?_
 refine leave_ret (res_one (v:=.bool (decide ((GPacket.mk ((t.peekP a.I).From) ((t.peekP a.I).To) ((t.peekP a.I).Bytes)) = (GPacket.mk 0 0 ([]:List Nat))))) rfl (.mk rfl rfl)) ?_
 have hyes:(decide ((GPacket.mk ((t.peekP a.I).From) ((t.peekP a.I).To) ((t.peekP a.I).Bytes)) = (GPacket.mk 0 0 ([]:List Nat)))) = true:=(decide_eq_true (by rw [hpk0]))
 rw [hyes]
 have hs477:=(((hs476.drop.drop.drop.drop.pick 2 rfl rfl).pick 2 rfl rfl).pick 2 rfl rfl)
 exact ⟨H,t,vb_t,cb_t,vt_t,ct_t,m,vb_m,cb_m,vt_m,ct_m,(Hp.le.refl _),rfl,(NetOk.any ok_t),(RSOk.any ok_m),(hrel.up (by omega)),St.netUp [obj g_m 56 (rCells m.n vb_m vt_m m.df m.lost),row 37 3 vb_m m.ps.length cb_m,row 3 1 vt_m m.bi.length ct_m] hs477⟩
 have hp470:¬ ((((m.ps.length:Nat):Int):Int) ≤ a.I):=of_decide_eq_false hc470
 refine c_cond_f (t:=false) (.tmp rfl (congrArg Value.bool hc470)) rfl ?_
 refine c_skip ?_
 refine n_then ?_
 refine c_seq ?_
 refine s_region (L:=obj g448 37 [.int .i64 ((t.peekP a.I).From),.int .i64 ((t.peekP a.I).To),v437]::row 5 1 v437 ((t.peekP a.I).Bytes.length) (((t.peekP a.I).Bytes).map encB)::obj g11 58 [.int .u8 ((a.Kind:Nat):Int),.int .i64 a.I,.int .i64 a.K,.slice A6 n7 c8]::obj g_m 56 (rCells m.n vb_m vt_m m.df m.lost)::row 37 3 vb_m m.ps.length cb_m::row 3 1 vt_m m.bi.length ct_m::netG 64 37 3 5 g_t t vb_t cb_t vt_t ct_t ((m.pks 5) ++ (L))) (L':=obj g448 37 [.int .i64 ((t.peekP a.I).From),.int .i64 ((t.peekP a.I).To),v437]::row 5 1 v437 ((t.peekP a.I).Bytes.length) (((t.peekP a.I).Bytes).map encB)::obj g11 58 [.int .u8 ((a.Kind:Nat):Int),.int .i64 a.I,.int .i64 a.K,.slice A6 n7 c8]::obj g_m 56 (rCells m.n vb_m vt_m m.df m.lost)::row 37 3 vb_m m.ps.length cb_m::row 3 1 vt_m m.bi.length ct_m::netG 64 37 3 5 g_t t vb_t cb_t vt_t ct_t ((m.pks 5) ++ (L))) none [(0,true),(1,true),(2,true),(3,true),(4,true),(5,true),(6,true),(7,true),(8,true),(9,true),(10,true),(11,true),(12,false),(13,true),(14,true)] mixed hs469 (fun u hu => hu) (by kernel_rfl) ?_
 intro w479 hs480
 have hin:m.inn a.I:=⟨by omega,by omega⟩
 have hq9:=at_pk ok_m hin
 skip
 refine s_st (k:=0) (v:=.int .i64 (t.lookE a.I)) rfl (fun w hs => (x_move (.tmp rfl rfl))) ?_
 refine s_st (k:=1) (v:=.bool (decide (((t.lookE a.I):Int) = 0))) rfl (fun w hs => (x_eql (k:=.i64) (a:=(t.lookE a.I)) (b:=0) (.tmp rfl rfl) .const)) ?_
 refine s_st (k:=2) (v:=.bool (decide (((t.lookE a.I):Int) = 0))) rfl (fun w hs => (x_move (.tmp rfl rfl))) ?_
 have hc481:(decide (((t.lookE a.I):Int) = 0)) = true:=(decide_eq_true (hrel.look.trans (rdrop_yes hin).1))
 refine s_yes (k:=3) (v:=.agg #[.int .i64 ((t.peekP a.I).From),.int .i64 ((t.peekP a.I).To),v437]) rfl (yl (dj:=156) (b:=true) rfl rfl (congrArg Value.bool hc481)) (fun w hs => (ld37 (cs:=[.int .i64 ((t.peekP a.I).From),.int .i64 ((t.peekP a.I).To),v437]) (.tmp rfl rfl) (hs.at_ 0 rfl (0) rfl) rfl)) ?_
 refine s_yes (k:=4) (v:=.pointer (some ⟨g_m,0,none⟩)) rfl (yl (dj:=156) (b:=true) rfl rfl (congrArg Value.bool hc481)) (fun w hs => (x_move (.tmp rfl rfl))) ?_
 refine s_yes (k:=5) (v:=.pointer (some ⟨g_m,0,none⟩)) rfl (yl (dj:=156) (b:=true) rfl rfl (congrArg Value.bool hc481)) (fun w hs => (x_nilCheck (.tmp rfl rfl))) ?_
 refine s_yes (k:=6) (v:=.pointer (some ⟨g_m,0 + 1,none⟩)) rfl (yl (dj:=156) (b:=true) rfl rfl (congrArg Value.bool hc481)) (fun w hs => (fa56_1 (.tmp rfl rfl))) ?_
 refine s_yes (k:=7) (v:=vb_m) rfl (yl (dj:=156) (b:=true) rfl rfl (congrArg Value.bool hc481)) (fun w hs => (ld51 (.tmp rfl rfl) (hs.cell 3 rfl (0 + 1) rfl))) ?_
 refine s_yes (k:=8) (v:=.pointer (some ⟨g11,0 + 1,none⟩)) rfl (yl (dj:=156) (b:=true) rfl rfl (congrArg Value.bool hc481)) (fun w hs => (fa58_1 (.tmp rfl rfl))) ?_
 refine s_yes (k:=9) (v:=.int .i64 a.I) rfl (yl (dj:=156) (b:=true) rfl rfl (congrArg Value.bool hc481)) (fun w hs => (ld3 (.tmp rfl rfl) (hs.cell 2 rfl (0 + 1) rfl))) ?_
 obtain ⟨g482,c483,hv484⟩:=ok_m.okb.pos (by omega)
 obtain ⟨e485,cs486,hx487,hr488,hsub489⟩:=Kn.rows_get (i:=a.I.toNat) ok_m.hkb (by omega)
 obtain ⟨rfl,⟨b490,b491⟩,⟨b492,b493⟩,ok494,sm495,lb496⟩:=hr488
 have hat_e485:m.at_ a.I = e485:=rat_is hx487
 refine s_yes (k:=10) (v:=.pointer (some ⟨g482,(a.I.toNat * 3),none⟩)) rfl (yl (dj:=156) (b:=true) rfl rfl (congrArg Value.bool hc481)) (fun w hs => (ixo51 (.tmp rfl hv484) rfl (i:=a.I) (.tmp rfl rfl) (by omega) (by omega) (by omega))) ?_
 refine s_yes (k:=11) (v:=.agg #[.int .i64 e485.From,.int .i64 e485.To,e485.v]) rfl (yl (dj:=156) (b:=true) rfl rfl (congrArg Value.bool hc481)) (fun w hs => (ld37 (cs:=[.int .i64 e485.From,.int .i64 e485.To,e485.v]) (.tmp rfl rfl) ((hs.rowAt 4 rfl hv484 (a.I.toNat * 3) hsub489).sub 0 rfl) rfl)) ?_
 refine s_eff (k:=12) rfl ?_
 refine g_yes (yl (dj:=156) (b:=true) rfl rfl (congrArg Value.bool hc481)) ?_
 rw [hat_e485] at hq9
 have hs497:St H _ (row 5 1 e485.v e485.bs.length (e485.bs.map encB)::obj g448 37 [.int .i64 ((t.peekP a.I).From),.int .i64 ((t.peekP a.I).To),v437]::row 5 1 v437 ((t.peekP a.I).Bytes.length) (((t.peekP a.I).Bytes).map encB)::obj g11 58 [.int .u8 ((a.Kind:Nat):Int),.int .i64 a.I,.int .i64 a.K,.slice A6 n7 c8]::obj g_m 56 (rCells m.n vb_m vt_m m.df m.lost)::row 37 3 vb_m m.ps.length cb_m::row 3 1 vt_m m.bi.length ct_m::netG 64 37 3 5 g_t t vb_t cb_t vt_t ct_t (((m.rest a.I).map (pkRes 5)) ++ (L))):=St.eqL (St.pkAway [obj g448 37 [.int .i64 ((t.peekP a.I).From),.int .i64 ((t.peekP a.I).To),v437],row 5 1 v437 ((t.peekP a.I).Bytes.length) (((t.peekP a.I).Bytes).map encB),obj g11 58 [.int .u8 ((a.Kind:Nat):Int),.int .i64 a.I,.int .i64 a.K,.slice A6 n7 c8],obj g_m 56 (rCells m.n vb_m vt_m m.df m.lost),row 37 3 vb_m m.ps.length cb_m,row 3 1 vt_m m.bi.length ct_m] hs480 hin) (by rw [hat_e485]; rfl)
 have hs498:St H _ (row 5 1 v437 ((t.peekP a.I).Bytes.length) (((t.peekP a.I).Bytes).map encB)::row 5 1 e485.v e485.bs.length (e485.bs.map encB)::obj g448 37 [.int .i64 ((t.peekP a.I).From),.int .i64 ((t.peekP a.I).To),v437]::obj g11 58 [.int .u8 ((a.Kind:Nat):Int),.int .i64 a.I,.int .i64 a.K,.slice A6 n7 c8]::obj g_m 56 (rCells m.n vb_m vt_m m.df m.lost)::row 37 3 vb_m m.ps.length cb_m::row 3 1 vt_m m.bi.length ct_m::netG 64 37 3 5 g_t t vb_t cb_t vt_t ct_t (((m.rest a.I).map (pkRes 5)) ++ (L))):=hs497.pick 2 rfl rfl
 refine st_c cb42 .func (evs2 (.tmp rfl rfl) (.tmp rfl rfl)) (rsame_spec hs498 (a:=(GPacket.mk ((t.peekP a.I).From) ((t.peekP a.I).To) ((t.peekP a.I).Bytes))) ⟨b442,b443⟩ ⟨b444,b445⟩ sm438 ok439 (b:=(GPacket.mk e485.From e485.To e485.bs)) ⟨b490,b491⟩ ⟨b492,b493⟩ hq9.2.1 hq9.1 ) ?_
 rintro e w499 ⟨rfl,hs500⟩
 refine ⟨_,rfl,?_⟩
 have hs501:St H _ (row 5 1 e485.v e485.bs.length (e485.bs.map encB)::row 5 1 v437 ((t.peekP a.I).Bytes.length) (((t.peekP a.I).Bytes).map encB)::obj g448 37 [.int .i64 ((t.peekP a.I).From),.int .i64 ((t.peekP a.I).To),v437]::obj g11 58 [.int .u8 ((a.Kind:Nat):Int),.int .i64 a.I,.int .i64 a.K,.slice A6 n7 c8]::obj g_m 56 (rCells m.n vb_m vt_m m.df m.lost)::row 37 3 vb_m m.ps.length cb_m::row 3 1 vt_m m.bi.length ct_m::netG 64 37 3 5 g_t t vb_t cb_t vt_t ct_t (((m.rest a.I).map (pkRes 5)) ++ (L))):=hs500.pick 1 rfl rfl
 have hs502:=hs501
 rw [show row 5 1 e485.v e485.bs.length (e485.bs.map encB) = pkRes 5 (m.at_ a.I) by rw [hat_e485]; rfl] at hs502
 have hs503:St H _ (row 5 1 v437 ((t.peekP a.I).Bytes.length) (((t.peekP a.I).Bytes).map encB)::obj g448 37 [.int .i64 ((t.peekP a.I).From),.int .i64 ((t.peekP a.I).To),v437]::obj g11 58 [.int .u8 ((a.Kind:Nat):Int),.int .i64 a.I,.int .i64 a.K,.slice A6 n7 c8]::obj g_m 56 (rCells m.n vb_m vt_m m.df m.lost)::row 37 3 vb_m m.ps.length cb_m::row 3 1 vt_m m.bi.length ct_m::netG 64 37 3 5 g_t t vb_t cb_t vt_t ct_t ((m.pks 5) ++ (L))):=St.pkHome [row 5 1 v437 ((t.peekP a.I).Bytes.length) (((t.peekP a.I).Bytes).map encB),obj g448 37 [.int .i64 ((t.peekP a.I).From),.int .i64 ((t.peekP a.I).To),v437],obj g11 58 [.int .u8 ((a.Kind:Nat):Int),.int .i64 a.I,.int .i64 a.K,.slice A6 n7 c8],obj g_m 56 (rCells m.n vb_m vt_m m.df m.lost),row 37 3 vb_m m.ps.length cb_m,row 3 1 vt_m m.bi.length ct_m] hs502 hin
 refine s_on (S':=fun u => St H u (row 5 1 v437 ((t.peekP a.I).Bytes.length) (((t.peekP a.I).Bytes).map encB)::obj g448 37 [.int .i64 ((t.peekP a.I).From),.int .i64 ((t.peekP a.I).To),v437]::obj g11 58 [.int .u8 ((a.Kind:Nat):Int),.int .i64 a.I,.int .i64 a.K,.slice A6 n7 c8]::obj g_m 56 (rCells m.n vb_m vt_m m.df m.lost)::row 37 3 vb_m m.ps.length cb_m::row 3 1 vt_m m.bi.length ct_m::netG 64 37 3 5 g_t t vb_t cb_t vt_t ct_t ((m.pks 5) ++ (L)))) (fun u hu => ((((((hu.pick 5 rfl rfl).pick 5 rfl rfl).pick 5 rfl rfl).pick 5 rfl rfl).pick 4 rfl rfl).pick 5 rfl rfl)) hs503 ?_
 refine s_st (k:=13) (v:=.bool (decide ((GPacket.mk ((t.peekP a.I).From) ((t.peekP a.I).To) ((t.peekP a.I).Bytes)) = (GPacket.mk e485.From e485.To e485.bs)))) rfl (fun w hs => (x_pick_t (.tmp rfl (congrArg Value.bool hc481)) (.tmp rfl rfl))) ?_
 refine s_st (k:=14) (v:=.bool (decide ((GPacket.mk ((t.peekP a.I).From) ((t.peekP a.I).To) ((t.peekP a.I).Bytes)) = (GPacket.mk e485.From e485.To e485.bs)))) rfl (fun w hs => (x_assign (.tmp rfl rfl))) ?_
 refine s_nil ?_
 refine n_then ?_
 refine c_ret ?_
 refine leave_ret (res_one (v:=.bool (decide ((GPacket.mk ((t.peekP a.I).From) ((t.peekP a.I).To) ((t.peekP a.I).Bytes)) = (GPacket.mk e485.From e485.To e485.bs)))) rfl (.mk rfl rfl)) ?_
 have hyes:(decide ((GPacket.mk ((t.peekP a.I).From) ((t.peekP a.I).To) ((t.peekP a.I).Bytes)) = (GPacket.mk e485.From e485.To e485.bs))) = true:=(decide_eq_true (by rw [hrel.peek hin,hat_e485]; rfl))
 rw [hyes]
 have hs504:=(((hs503.drop.drop.drop.pick 2 rfl rfl).pick 2 rfl rfl).pick 2 rfl rfl)
 exact ⟨H,t,vb_t,cb_t,vt_t,ct_t,m,vb_m,cb_m,vt_m,ct_m,(Hp.le.refl _),rfl,(NetOk.any ok_t),(RSOk.any ok_m),(hrel.up (by omega)),St.netUp [obj g_m 56 (rCells m.n vb_m vt_m m.df m.lost),row 37 3 vb_m m.ps.length cb_m,row 3 1 vt_m m.bi.length ct_m] hs504⟩
set_option maxHeartbeats 8000000 in
theorem new_none {H:Hp} {w:World} {L:List Res} (hs:St H w (L)) (n:Int) (b_n:IB n) (hn:n < 1 ∨ 16 < n):Calls Tryd.prog 12 #[.int .i64 n] w (fun e w' => e = .returned (.tuple #[.pointer none,.int .i64 1])∧St H w' (L)):=by
 obtain ⟨b_n1,b_n2⟩:=b_n
 refine enter (args:=[.int .i64 n]) (N:=29) Tryd.func12 rfl rfl rfl ?_
 refine c_seq ?_
 refine c_region ?_
 refine st (v:=.pointer none) (x_assign .const) ?_
 refine st (v:=.int .i64 0) (x_assign .const) ?_
 refine c_nil ?_
 refine n_then ?_
 refine c_seq ?_
 refine c_seq ?_
 refine c_region ?_
 refine st (v:=.int .i64 n) (x_move (.tmp rfl rfl)) ?_
 refine st (v:=.bool (decide ((n:Int) < 1))) (x_lss (k:=.i64) (a:=n) (b:=1) (.tmp rfl rfl) .const) ?_
 refine st (v:=.bool (decide ((n:Int) < 1))) (x_move (.tmp rfl rfl)) ?_
 rcases Bool.eq_false_or_eq_true (decide ((n:Int) < 1)) with hc1 | hc1
 have hp1:(n:Int) < 1:=of_decide_eq_true hc1
 refine g_no (yl (dj:=8) (b:=true) rfl rfl (congrArg Value.bool hc1)) rfl ?_
 refine g_no (yl (dj:=8) (b:=true) rfl rfl (congrArg Value.bool hc1)) rfl ?_
 refine st (v:=.bool true) (x_pick_t (.tmp rfl (congrArg Value.bool hc1)) .const) ?_
 refine c_nil ?_
 refine n_then ?_
 refine c_cond_t (t:=true) (.tmp rfl rfl) rfl ?_
 refine c_seq ?_
 refine c_region ?_
 refine st (v:=.pointer none) (x_assign .const) ?_
 refine st (v:=.int .i64 1) (x_assign .const) ?_
 refine c_nil ?_
 refine n_then ?_
 refine c_ret ?_
 refine r_then ?_
 refine leave_ret (res_two (v:=.pointer none) (u:=.int .i64 1) rfl (.mk rfl rfl) (.mk rfl rfl)) ?_
 exact ⟨rfl,hs⟩
 have hp1:¬ ((n:Int) < 1):=of_decide_eq_false hc1
 refine g_yes (yl (dj:=8) (b:=false) rfl rfl (congrArg Value.bool hc1)) ?_
 refine st (v:=.int .i64 n) (x_move (.tmp rfl rfl)) ?_
 refine g_yes (yl (dj:=8) (b:=false) rfl rfl (congrArg Value.bool hc1)) ?_
 refine st (v:=.bool (decide ((16:Int) < n))) (x_gtr (k:=.i64) (a:=n) (b:=16) (.tmp rfl rfl) .const) ?_
 refine st (v:=.bool (decide ((16:Int) < n))) (x_pick_f (.tmp rfl (congrArg Value.bool hc1)) (.tmp rfl rfl)) ?_
 refine c_nil ?_
 refine n_then ?_
 have hc2:(decide ((16:Int) < n)) = true:=(decide_eq_true (by omega))
 refine c_cond_t (t:=true) (.tmp rfl (congrArg Value.bool hc2)) rfl ?_
 refine c_seq ?_
 refine c_region ?_
 refine st (v:=.pointer none) (x_assign .const) ?_
 refine st (v:=.int .i64 1) (x_assign .const) ?_
 refine c_nil ?_
 refine n_then ?_
 refine c_ret ?_
 refine r_then ?_
 refine leave_ret (res_two (v:=.pointer none) (u:=.int .i64 1) rfl (.mk rfl rfl) (.mk rfl rfl)) ?_
 exact ⟨rfl,hs⟩
end Go.Proofs.YtojlmilkdijiaaaDoor
