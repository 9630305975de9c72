/- Steps of the proofs over the functions of this seat, printed by a program (gen.py) and checked by Lean. -/
import Derived.Test.YtcccaihjgoaehaaDoorW01
import Derived.Test.YtcccaihjgoaehaaDoorW00
import Derived.Test.YtcccaihjgoaehaaDoorW03
import Derived.Test.YtcccaihjgoaehaaDoorW11
set_option linter.unusedVariables false
set_option linter.unusedSimpArgs false
namespace Go.Proofs.YtcccaihjgoaehaaDoor
open Go Go.FM Go.Proofs
attribute [local irreducible] wpList wpQuiet wpS Code.wp Calls
set_option maxHeartbeats 8000000 in
theorem settles_law {H:Hp} {w:World} {L:List Res} (hs:St H w (L)) (z:Nat) (b_z:z < 256) {A_l:Option Addr} {n_l c_l:Nat} (l:(List GMove)) (h_l:Sl kMove H A_l n_l c_l l) (htab:Tab H):Calls Tryd.prog 7 #[.int .u8 ((z:Nat):Int),.slice A_l n_l c_l] w (fun e w' => e = .returned (.bool true)∧St H w' (L)):=by
 have:=h_l.len; have:=h_l.le; have:n_l * 6 ≤ 140737488351232:=h_l.bnd
 refine enter (args:=[.int .u8 ((z:Nat):Int),.slice A_l n_l c_l]) (N:=135) Tryd.func7 rfl rfl rfl ?_
 refine c_seq (c_region (st (v:=.bool false) (x_assign .const) ?_))
 refine c_nil (n_then (c_seq (c_seq (c_region (st_c cb10 .func (evs0 ) (awake_spec hs  htab) ?_)))))
 rintro e w1 ⟨rfl,hs2⟩
 refine ⟨_,rfl,?_⟩
 refine st (v:=.bool false) (x_not (b:=true) (.tmp rfl rfl)) ?_
 refine c_nil (n_then (c_cond_f (t:=false) (.tmp rfl rfl) rfl ?_))
 refine c_skip (n_then (c_seq (c_region (st (v:=.int .u8 ((z:Nat):Int)) (x_move (.tmp rfl rfl)) ?_))))
 refine st (v:=.int .i64 ((z:Nat):Int)) (x_conv (k:=.u8) (a:=((z:Nat):Int)) Tryd.underlying5 Tryd.underlying3 (.tmp rfl rfl) (w64 (by omega) (by omega))) ?_
 refine st (v:=.int .i64 (((z % 6):Nat):Int)) (x_remN (k:=.i64) (m:=z) (n:=6) (.tmp rfl rfl) .const (by omega)) ?_
 refine st (v:=.int .i64 (((1 + (z % 6)):Nat):Int)) (x_add (k:=.i64) (a:=1) (b:=(((z % 6):Nat):Int)) .const (.tmp rfl rfl) ((w64 (by omega) (by omega)).trans (by omega))) ?_
 refine st_c cb20 .func (evs1 (.tmp rfl rfl)) (begin_spec hs2 (1 + (z % 6)) (by omega) (by omega)) ?_
 rintro e w3 ⟨H5,gr7,hle6,rfl,okg8,hgg9,hs4⟩
 refine ⟨_,rfl,?_⟩
 have hs10:St H5 _ (obj gr7.a 67 [.int .i64 ((gr7.n:Nat):Int),.slice gr7.A gr7.ln gr7.lc,gr7.bv,gr7.vv]::row 53 16 gr7.bv gr7.bag.length gr7.bc::row 63 1 gr7.vv gr7.vs.length gr7.vc::memsR 78 81 37 gr7.ms ++ (vrsR 39 gr7.vs ++ (L))):=St.grpOpen [] hs4
 refine st (v:=.pointer (some ⟨gr7.a,0,none⟩)) (x_assign (.tmp rfl rfl)) ?_
 refine c_nil (n_then (c_seq (c_seq (c_region (st (v:=.pointer (some ⟨gr7.a,0,none⟩)) (x_move (.tmp rfl rfl)) ?_)))))
 refine st (v:=.bool false) (x_eqlP Tryd.underlying58 (.tmp rfl rfl) .const rfl) ?_
 refine c_nil (n_then (c_cond_f (t:=false) (.tmp rfl rfl) rfl ?_))
 refine c_skip (n_then (c_seq (c_seq (c_region (st (v:=.int .i64 0) (x_assign .const) ?_)))))
 refine c_nil (n_then (c_block ?_))
 have hn0:gr7.n = (1 + z % 6):=congrArg GG.n hgg9
 refine c_loop (fun ρ w mm => ∃ (H11:Hp) (i:Nat) (y:GR),ρ 1 = .slice A_l n_l c_l∧ρ 5 = .pointer (some ⟨y.a,0,none⟩)∧ρ 6 = .int .i64 ((i:Nat):Int)∧(H5.le H11)∧(i ≤ 150)∧(i ≤ l.length)∧(GR.ok y H11)∧(RunOk i y.g)∧(y.n = (1 + z % 6))∧St H11 w (obj y.a 67 [.int .i64 ((y.n:Nat):Int),.slice y.A y.ln y.lc,y.bv,y.vv]::row 53 16 y.bv y.bag.length y.bc::row 63 1 y.vv y.vs.length y.vc::memsR 78 81 37 y.ms ++ (vrsR 39 y.vs ++ (L)))∧mm = 150 - i) _ ⟨H5,0,gr7,rfl,rfl,rfl,(Hp.le.refl _),(by omega),(by omega),okg8,(by rw [hgg9]; exact RunOk.start (by omega) (by omega)),hn0,(((hs10.p2).p2).p2),rfl⟩ ?_
 rintro ρ w mm ⟨H11,i,y,hρ13,hρ14,hρ15,hg12,hi,hil,oky,hy,hyn,hs16,rfl⟩
 refine c_seq (c_seq (c_region (st (v:=.int .i64 ((i:Nat):Int)) (x_move (.tmp rfl hρ15)) ?_)))
 refine st (v:=.slice A_l n_l c_l) (x_move (.tmp rfl hρ13)) ?_
 refine st (v:=.int .i64 ((n_l:Nat):Int)) (x_len (n:=n_l) Tryd.underlying57 (.tmp rfl rfl)) ?_
 refine st (v:=.bool (decide ((((i:Nat):Int):Int) < ((n_l:Nat):Int)))) (x_lss (k:=.i64) (a:=((i:Nat):Int)) (b:=((n_l:Nat):Int)) (.tmp rfl rfl) (.tmp rfl rfl)) ?_
 refine st (v:=.bool (decide ((((i:Nat):Int):Int) < ((n_l:Nat):Int)))) (x_move (.tmp rfl rfl)) ?_
 refine jw 3 (fun ρ w => ρ 30 = .bool ((decide ((((i:Nat):Int):Int) < ((n_l:Nat):Int))) && (decide ((((i:Nat):Int):Int) < 150)))∧ρ 1 = .slice A_l n_l c_l∧ρ 5 = .pointer (some ⟨y.a,0,none⟩)∧ρ 6 = .int .i64 ((i:Nat):Int)∧St H11 w (obj y.a 67 [.int .i64 ((y.n:Nat):Int),.slice y.A y.ln y.lc,y.bv,y.vv]::row 53 16 y.bv y.bag.length y.bc::row 63 1 y.vv y.vs.length y.vc::memsR 78 81 37 y.ms ++ (vrsR 39 y.vs ++ (L)))) ?_ ?_
 rcases Bool.eq_false_or_eq_true (decide ((((i:Nat):Int):Int) < ((n_l:Nat):Int))) with hc17 | hc17
 have hp17:(((i:Nat):Int):Int) < ((n_l:Nat):Int):=of_decide_eq_true hc17
 refine g_yes (yk 27 true rfl rfl hc17) ?_
 refine st (v:=.int .i64 ((i:Nat):Int)) (x_move (.tmp rfl hρ15)) ?_
 refine g_yes (yk 27 true rfl rfl hc17) ?_
 refine st (v:=.bool (decide ((((i:Nat):Int):Int) < 150))) (x_lss (k:=.i64) (a:=((i:Nat):Int)) (b:=150) (.tmp rfl rfl) .const) ?_
 refine st (v:=.bool (decide ((((i:Nat):Int):Int) < 150))) (x_pick_t (.tmp rfl (cVb hc17)) (.tmp rfl rfl)) ?_
 exact jw_end ⟨(cVb (jand_t hc17)),hρ13,hρ14,hρ15,hs16⟩
 have hp17:¬ ((((i:Nat):Int):Int) < ((n_l:Nat):Int)):=of_decide_eq_false hc17
 refine g_no (yk 27 false rfl rfl hc17) rfl ?_
 refine g_no (yk 27 false rfl rfl hc17) rfl ?_
 refine st (v:=.bool false) (x_pick_f (.tmp rfl (cVb hc17)) .const) ?_
 exact jw_end ⟨(cVb (jand_f hc17)),hρ13,hρ14,hρ15,hs16⟩
 rintro ρ w ⟨hρ18,hρ19,hρ20,hρ21,hs22⟩
 refine c_nil (n_then ?_)
 rcases Bool.eq_false_or_eq_true ((decide ((((i:Nat):Int):Int) < ((n_l:Nat):Int))) && (decide ((((i:Nat):Int):Int) < 150))) with hc23 | hc23
 have hp23:((((i:Nat):Int):Int) < ((n_l:Nat):Int))∧((((i:Nat):Int):Int) < 150):=((J_and decide_eq_true_iff decide_eq_true_iff)).1 hc23
 refine c_cond_t (t:=true) (.tmp rfl (hρ18.trans (cVb hc23))) rfl ?_
 refine c_skip (n_then (c_seq (c_block (c_region (st (v:=.pointer (some ⟨y.a,0,none⟩)) (x_move (.tmp rfl hρ20)) ?_)))))
 refine st (v:=.slice A_l n_l c_l) (x_move (.tmp rfl hρ19)) ?_
 refine st (v:=.int .i64 ((i:Nat):Int)) (x_move (.tmp rfl hρ21)) ?_
 obtain ⟨e24,b25,o26,cs27,hx28,hA29,hr30,hat31⟩:=((h_l.mono hle6).mono hg12).get (i:=i) (by omega)
 obtain ⟨rfl,b32,b33,b34⟩:=hr30
 have hat31x:∀ {w:World} {L:List Res},St H11 w L → At w ⟨b25,o26 + i * 4,none⟩ [.int .u8 ((e24.Kind:Nat):Int),.int .u8 ((e24.I:Nat):Int),.int .u16 ((e24.Est:Nat):Int),.bool e24.Keep]:=fun h => hat31 h
 refine st (v:=.pointer (some ⟨b25,(o26 + i * 4),none⟩)) (ixo57 (.tmp rfl rfl) hA29 (i:=((i:Nat):Int)) (.tmp rfl rfl) (by omega) (by omega) (by omega)) ?_
 refine st (v:=.agg #[.int .u8 ((e24.Kind:Nat):Int),.int .u8 ((e24.I:Nat):Int),.int .u16 ((e24.Est:Nat):Int),.bool e24.Keep]) (ld62 (cs:=[.int .u8 ((e24.Kind:Nat):Int),.int .u8 ((e24.I:Nat):Int),.int .u16 ((e24.Est:Nat):Int),.bool e24.Keep]) (.tmp rfl rfl) ((hat31x hs22).sub 0 rfl) rfl) ?_
 have hs35:=hs22.p2
 have hs36:=hs35.p2
 have hs37:=hs36.p2
 have okg39:GR.ok y H11:=⟨oky.mok,oky.l,oky.bok,oky.bhk,oky.vok,oky.vhk⟩
 have hs38:St H11 _ (GR.res 67 53 63 39 78 81 37 y ++ (L)):=St.grpShut (x:=y) [] hs37
 have hr40:kMove.rep H11 e24 [.int .u8 ((e24.Kind:Nat):Int),.int .u8 ((e24.I:Nat):Int),.int .u16 ((e24.Est:Nat):Int),.bool e24.Keep]:=⟨rfl,b32,b33,b34⟩
 refine st_c cb21 .func (evs2 (.tmp rfl rfl) (.tmp rfl rfl)) (move_spec hs38 (x:=y) okg39 e24 hr40 (hy.ok (by omega)) (by have h9:y.bag.length ≤ 14400:=hy.bagl (by omega); omega) (htab.mono (hle6.trans hg12))) ?_
 rintro e w41 ⟨H43,gr45,hle44,rfl,okg46,hga47,hgn48,hgg49,hs42⟩
 refine ⟨_,rfl,?_⟩
 have hs50:St H43 _ (obj gr45.a 67 [.int .i64 ((gr45.n:Nat):Int),.slice gr45.A gr45.ln gr45.lc,gr45.bv,gr45.vv]::row 53 16 gr45.bv gr45.bag.length gr45.bc::row 63 1 gr45.vv gr45.vs.length gr45.vc::memsR 78 81 37 gr45.ms ++ (vrsR 39 gr45.vs ++ (L))):=St.grpOpen [] hs42
 refine c_nil (n_block (n_then (c_region (st (v:=.int .i64 ((i:Nat):Int)) (x_move (.tmp rfl hρ21)) ?_))))
 refine st (v:=.int .i64 (((i + 1):Nat):Int)) (x_add (k:=.i64) (a:=((i:Nat):Int)) (b:=1) (.tmp rfl rfl) .const ((w64 (by omega) (by omega)).trans (by omega))) ?_
 refine st (v:=.int .i64 (((i + 1):Nat):Int)) (x_assign (.tmp rfl rfl)) ?_
 refine c_nil ?_
 have hyn2:gr45.n = (1 + z % 6):=hgn48.trans hyn
 refine n_then ⟨_,_,rfl,?_,H43,(i + 1),gr45,hρ19,(hρ20.trans (congrArg (fun z => Value.pointer (some ⟨z,0,none⟩)) hga47.symm)),rfl,(hg12.trans hle44),(by omega),(by omega),okg46,(by rw [hgg49]; exact hy.move (by omega) _),hyn2,(((hs50.p2).p2).p2),rfl⟩
 omega
 have hp23:¬ (((((i:Nat):Int):Int) < ((n_l:Nat):Int))∧((((i:Nat):Int):Int) < 150)):=J_no (J_and decide_eq_true_iff decide_eq_true_iff) hc23
 refine c_cond_f (t:=false) (.tmp rfl (hρ18.trans (cVb hc23))) rfl ?_
 refine c_exit (x_then (x_then (x_here (n_then (c_seq (c_region (st (v:=.pointer (some ⟨y.a,0,none⟩)) (x_move (.tmp rfl hρ20)) ?_)))))))
 refine st (v:=.pointer (some ⟨y.a,0,none⟩)) (x_nilCheck (.tmp rfl rfl)) ?_
 refine st (v:=.pointer (some ⟨y.a,0 + 0,none⟩)) (fa67_0 (.tmp rfl rfl)) ?_
 refine st (v:=.int .i64 ((y.n:Nat):Int)) (ld3 (.tmp rfl rfl) (hs22.cell 0 rfl (0 + 0) rfl)) ?_
 have hb51:(1 * 2 ^ y.n % 65536) < 65536:=Nat.mod_lt _ (by decide)
 refine st (v:=.int .u16 (((1 * 2 ^ y.n % 65536):Nat):Int)) (x_shl (k:=.u16) (m:=1) (b:=((y.n:Nat):Int)) rfl .const (.tmp rfl rfl) (by omega)) ?_
 have hal:=all_sub (k:=y.n) (by omega) (by omega)
 refine st (v:=.int .u16 (((2 ^ y.n - 1):Nat):Int)) (x_sub (k:=.u16) (a:=(((1 * 2 ^ y.n % 65536):Nat):Int)) (b:=1) (.tmp rfl rfl) .const ((wrapU _ rfl _).trans (by rw [show (2 ^ IntKind.u16.bits:Int) = 65536 from rfl,hal.1]; rfl))) ?_
 refine st (v:=.int .u16 (((2 ^ y.n - 1):Nat):Int)) (x_assign (.tmp rfl rfl)) ?_
 refine c_nil (n_then (c_seq (c_region (st_m (al39 (cs:=[.int .u64 0,.int .i64 0,.int .u16 0]) hs22 rfl) ?_))))
 rintro _ w53 ⟨g52,rfl,hs55⟩
 refine c_nil (n_then (c_seq (c_seq (c_region (st (v:=.int .i64 0) (x_assign .const) ?_)))))
 refine c_nil (n_then (c_block (c_loop (fun ρ w mm => ∃ (H56:Hp) (k:Nat) (ya:GR) (T:GView) (cv:GView),ρ 5 = .pointer (some ⟨ya.a,0,none⟩)∧ρ 7 = .int .u16 (((2 ^ y.n - 1):Nat):Int)∧ρ 8 = .pointer (some ⟨g52,0,none⟩)∧ρ 9 = .int .i64 ((k:Nat):Int)∧(H11.le H56)∧(k ≤ 8)∧(GR.ok ya H56)∧(PhA k T ya.g)∧(ya.n = (1 + z % 6))∧(ya.bag.length ≤ 900)∧(3 ≤ k → cv = T)∧(cv.ID.N < 18446744073709551616)∧(IB cv.ID.P)∧(cv.Set < 65536)∧St H56 w (obj g52 39 (clView cv)::obj ya.a 67 [.int .i64 ((ya.n:Nat):Int),.slice ya.A ya.ln ya.lc,ya.bv,ya.vv]::row 53 16 ya.bv ya.bag.length ya.bc::row 63 1 ya.vv ya.vs.length ya.vc::memsR 78 81 37 ya.ms ++ (vrsR 39 ya.vs ++ (L)))∧mm = 8 - k) _ ⟨H11,0,y,(GView.mk z0 0),(GView.mk (GViewID.mk 0 0) 0),hρ20,rfl,rfl,rfl,(Hp.le.refl _),(by omega),oky,(hy.calm (by omega)),hyn,(hy.bag6 (by omega) (show y.n ≤ 6 by omega)),(fun h => absurd h (by omega)),(show 0 < 18446744073709551616 by omega),(show IB 0 from ⟨by omega,by omega⟩),(show 0 < 65536 by omega),((((hs55.p3).p3).p3).p3),rfl⟩ ?_)))
 rintro ρ w mm ⟨H56,k,ya,T,cv,hρ58,hρ59,hρ60,hρ61,hg57,hk,okk,hA,hkn,hkb,hT,bcv,icv,scv,hs62,rfl⟩
 refine c_seq (c_seq (c_region (st (v:=.int .i64 ((k:Nat):Int)) (x_move (.tmp rfl hρ61)) ?_)))
 refine st (v:=.bool (decide ((((k:Nat):Int):Int) < 8))) (x_lss (k:=.i64) (a:=((k:Nat):Int)) (b:=8) (.tmp rfl rfl) .const) ?_
 refine c_nil (n_then ?_)
 rcases Bool.eq_false_or_eq_true (decide ((((k:Nat):Int):Int) < 8)) with hc63 | hc63
 have hp63:(((k:Nat):Int):Int) < 8:=of_decide_eq_true hc63
 refine c_cond_t (t:=true) (.tmp rfl (cVb hc63)) rfl ?_
 refine c_skip (n_then (c_seq (c_block (c_seq (c_seq (c_region (st (v:=.int .i64 0) (x_assign .const) ?_)))))))
 refine c_nil (n_then (c_block (c_loop (fun ρ w mm => ∃ (H64:Hp) (i2:Nat) (yb:GR),ρ 5 = .pointer (some ⟨yb.a,0,none⟩)∧ρ 7 = .int .u16 (((2 ^ y.n - 1):Nat):Int)∧ρ 8 = .pointer (some ⟨g52,0,none⟩)∧ρ 9 = .int .i64 ((k:Nat):Int)∧ρ 10 = .int .i64 ((i2:Nat):Int)∧(H56.le H64)∧(i2 ≤ (1 + z % 6))∧(GR.ok yb H64)∧(PhB k i2 T yb.g)∧(yb.n = (1 + z % 6))∧(yb.bag.length ≤ 900 + i2 * 6)∧St H64 w (obj g52 39 (clView cv)::obj yb.a 67 [.int .i64 ((yb.n:Nat):Int),.slice yb.A yb.ln yb.lc,yb.bv,yb.vv]::row 53 16 yb.bv yb.bag.length yb.bc::row 63 1 yb.vv yb.vs.length yb.vc::memsR 78 81 37 yb.ms ++ (vrsR 39 yb.vs ++ (L)))∧mm = (1 + z % 6) - i2) _ ⟨H56,0,ya,hρ58,hρ59,hρ60,hρ61,rfl,(Hp.le.refl _),(by omega),okk,hA.beats,hkn,(by omega),((((hs62.p3).p3).p3).p3),rfl⟩ ?_)))
 rintro ρ w mm ⟨H64,i2,yb,hρ66,hρ67,hρ68,hρ69,hρ70,hg65,hi2,okb,hB,hbn,hbl,hs71,rfl⟩
 refine c_seq (c_seq (c_region (st (v:=.int .i64 ((i2:Nat):Int)) (x_move (.tmp rfl hρ70)) ?_)))
 refine st (v:=.pointer (some ⟨yb.a,0,none⟩)) (x_move (.tmp rfl hρ66)) ?_
 refine st (v:=.pointer (some ⟨yb.a,0,none⟩)) (x_nilCheck (.tmp rfl rfl)) ?_
 refine st (v:=.pointer (some ⟨yb.a,0 + 0,none⟩)) (fa67_0 (.tmp rfl rfl)) ?_
 refine st (v:=.int .i64 ((yb.n:Nat):Int)) (ld3 (.tmp rfl rfl) (hs71.cell 1 rfl (0 + 0) rfl)) ?_
 refine st (v:=.bool (decide ((((i2:Nat):Int):Int) < ((yb.n:Nat):Int)))) (x_lss (k:=.i64) (a:=((i2:Nat):Int)) (b:=((yb.n:Nat):Int)) (.tmp rfl rfl) (.tmp rfl rfl)) ?_
 refine c_nil (n_then ?_)
 rcases Bool.eq_false_or_eq_true (decide ((((i2:Nat):Int):Int) < ((yb.n:Nat):Int))) with hc72 | hc72
 have hp72:(((i2:Nat):Int):Int) < ((yb.n:Nat):Int):=of_decide_eq_true hc72
 refine c_cond_t (t:=true) (.tmp rfl (cVb hc72)) rfl ?_
 refine c_skip (n_then (c_seq (c_block (c_region (st (v:=.pointer (some ⟨yb.a,0,none⟩)) (x_move (.tmp rfl hρ66)) ?_)))))
 refine st (v:=.int .i64 ((i2:Nat):Int)) (x_move (.tmp rfl hρ70)) ?_
 refine st (v:=.int .u8 (((i2 % 256):Nat):Int)) (x_conv (k:=.i64) (a:=((i2:Nat):Int)) Tryd.underlying3 Tryd.underlying5 (.tmp rfl rfl) (wrapN _ rfl _)) ?_
 refine st (v:=.agg #[.int .u8 8,.int .u8 (((i2 % 256):Nat):Int),.int .u16 0,.bool false]) (bl62 (ps:=[(0,.int .u8 8),(1,.int .u8 (((i2 % 256):Nat):Int))]) (.cons .const (.cons (.tmp rfl rfl) Evp.nil)) rfl) ?_
 have hs73:=hs71.p3
 have hs74:=hs73.p3
 have hs75:=hs74.p3
 have okg77:GR.ok yb H64:=⟨okb.mok,okb.l,okb.bok,okb.bhk,okb.vok,okb.vhk⟩
 have hs76:St H64 _ (GR.res 67 53 63 39 78 81 37 yb ++ (obj g52 39 (clView cv)::L)):=St.grpShut (x:=yb) [obj g52 39 (clView cv)] hs75
 have hr78:kMove.rep H64 (GMove.mk 8 (i2 % 256) 0 false) [.int .u8 8,.int .u8 (((i2 % 256):Nat):Int),.int .u16 0,.bool false]:=⟨rfl,(show 8 < 256 from by omega),(Nat.mod_lt _ (by decide)),(show 0 < 65536 from by omega)⟩
 refine st_c cb21 .func (evs2 (.tmp rfl rfl) (.tmp rfl rfl)) (move_spec hs76 (x:=yb) okg77 (GMove.mk 8 (i2 % 256) 0 false) hr78 (hB.ok (by omega) (by omega)) (by omega) (htab.mono (((hle6.trans hg12).trans hg57).trans hg65))) ?_
 rintro e w79 ⟨H81,gr83,hle82,rfl,okg84,hga85,hgn86,hgg87,hs80⟩
 refine ⟨_,rfl,?_⟩
 have hs88:St H81 _ (obj gr83.a 67 [.int .i64 ((gr83.n:Nat):Int),.slice gr83.A gr83.ln gr83.lc,gr83.bv,gr83.vv]::row 53 16 gr83.bv gr83.bag.length gr83.bc::row 63 1 gr83.vv gr83.vs.length gr83.vc::obj g52 39 (clView cv)::memsR 78 81 37 gr83.ms ++ (vrsR 39 gr83.vs ++ (L))):=St.grpOpen [obj g52 39 (clView cv)] hs80
 refine c_nil (n_block (n_then (c_region (st (v:=.int .i64 ((i2:Nat):Int)) (x_move (.tmp rfl hρ70)) ?_))))
 refine st (v:=.int .i64 (((i2 + 1):Nat):Int)) (x_add (k:=.i64) (a:=((i2:Nat):Int)) (b:=1) (.tmp rfl rfl) .const ((w64 (by omega) (by omega)).trans (by omega))) ?_
 refine st (v:=.int .i64 (((i2 + 1):Nat):Int)) (x_assign (.tmp rfl rfl)) ?_
 refine c_nil ?_
 have hlen9:gr83.bag.length ≤ yb.bag.length + yb.n:=by show gr83.g.bag.length ≤ yb.g.bag.length + yb.g.n; rw [hgg87]; exact GOk.mlen (hB.ok (by omega) (by omega)) _
 have hn9:gr83.n = yb.n:=hgn86
 refine n_then ⟨_,_,rfl,?_,H81,(i2 + 1),gr83,(hρ66.trans (congrArg (fun z => Value.pointer (some ⟨z,0,none⟩)) hga85.symm)),hρ67,hρ68,hρ69,rfl,(hg65.trans hle82),(by omega),okg84,(by rw [hgg87,move_beat (i:=i2) (show i2 < yb.n by omega) rfl (show i2 % 256 = i2 by omega)]; exact hB.beat (show i2 < yb.n by omega)),(by omega),(by omega),((((hs88.p2).p2).p2).p3),rfl⟩
 omega
 have hp72:¬ ((((i2:Nat):Int):Int) < ((yb.n:Nat):Int)):=of_decide_eq_false hc72
 refine c_cond_f (t:=false) (.tmp rfl (cVb hc72)) rfl ?_
 refine c_exit (x_then (x_then (x_here (n_then (c_seq (c_seq (c_region (st (v:=.int .i64 0) (x_assign .const) ?_))))))))
 refine c_nil (n_then (c_block ?_))
 have hC0:PhC k 0 T yb.g:=PhB.ticks (by rw [show yb.g.n = i2 from (show yb.n = i2 by omega)]; exact hB)
 refine c_loop (fun ρ w mm => ∃ (H89:Hp) (i3:Nat) (yc:GR),ρ 5 = .pointer (some ⟨yc.a,0,none⟩)∧ρ 7 = .int .u16 (((2 ^ y.n - 1):Nat):Int)∧ρ 8 = .pointer (some ⟨g52,0,none⟩)∧ρ 9 = .int .i64 ((k:Nat):Int)∧ρ 11 = .int .i64 ((i3:Nat):Int)∧(H64.le H89)∧(i3 ≤ (1 + z % 6))∧(GR.ok yc H89)∧(PhC k i3 T yc.g)∧(yc.n = (1 + z % 6))∧(yc.bag.length ≤ 936 + i3 * 6)∧St H89 w (obj g52 39 (clView cv)::obj yc.a 67 [.int .i64 ((yc.n:Nat):Int),.slice yc.A yc.ln yc.lc,yc.bv,yc.vv]::row 53 16 yc.bv yc.bag.length yc.bc::row 63 1 yc.vv yc.vs.length yc.vc::memsR 78 81 37 yc.ms ++ (vrsR 39 yc.vs ++ (L)))∧mm = (1 + z % 6) - i3) _ ⟨H64,0,yb,hρ66,hρ67,hρ68,hρ69,rfl,(Hp.le.refl _),(by omega),okb,hC0,hbn,(by omega),((((hs71.p3).p3).p3).p3),rfl⟩ ?_
 rintro ρ w mm ⟨H89,i3,yc,hρ91,hρ92,hρ93,hρ94,hρ95,hg90,hi3,okc,hC,hcn,hcl,hs96,rfl⟩
 refine c_seq (c_seq (c_region (st (v:=.int .i64 ((i3:Nat):Int)) (x_move (.tmp rfl hρ95)) ?_)))
 refine st (v:=.pointer (some ⟨yc.a,0,none⟩)) (x_move (.tmp rfl hρ91)) ?_
 refine st (v:=.pointer (some ⟨yc.a,0,none⟩)) (x_nilCheck (.tmp rfl rfl)) ?_
 refine st (v:=.pointer (some ⟨yc.a,0 + 0,none⟩)) (fa67_0 (.tmp rfl rfl)) ?_
 refine st (v:=.int .i64 ((yc.n:Nat):Int)) (ld3 (.tmp rfl rfl) (hs96.cell 1 rfl (0 + 0) rfl)) ?_
 refine st (v:=.bool (decide ((((i3:Nat):Int):Int) < ((yc.n:Nat):Int)))) (x_lss (k:=.i64) (a:=((i3:Nat):Int)) (b:=((yc.n:Nat):Int)) (.tmp rfl rfl) (.tmp rfl rfl)) ?_
 refine c_nil (n_then ?_)
 rcases Bool.eq_false_or_eq_true (decide ((((i3:Nat):Int):Int) < ((yc.n:Nat):Int))) with hc97 | hc97
 have hp97:(((i3:Nat):Int):Int) < ((yc.n:Nat):Int):=of_decide_eq_true hc97
 refine c_cond_t (t:=true) (.tmp rfl (cVb hc97)) rfl ?_
 refine c_skip (n_then (c_seq (c_block (c_region (st (v:=.pointer (some ⟨yc.a,0,none⟩)) (x_move (.tmp rfl hρ91)) ?_)))))
 refine st (v:=.int .i64 ((i3:Nat):Int)) (x_move (.tmp rfl hρ95)) ?_
 refine st (v:=.int .u8 (((i3 % 256):Nat):Int)) (x_conv (k:=.i64) (a:=((i3:Nat):Int)) Tryd.underlying3 Tryd.underlying5 (.tmp rfl rfl) (wrapN _ rfl _)) ?_
 refine st (v:=.int .u16 (((2 ^ y.n - 1):Nat):Int)) (x_move (.tmp rfl hρ92)) ?_
 refine st (v:=.agg #[.int .u8 0,.int .u8 (((i3 % 256):Nat):Int),.int .u16 (((2 ^ y.n - 1):Nat):Int),.bool false]) (bl62 (ps:=[(1,.int .u8 (((i3 % 256):Nat):Int)),(2,.int .u16 (((2 ^ y.n - 1):Nat):Int))]) (.cons (.tmp rfl rfl) (.cons (.tmp rfl rfl) Evp.nil)) rfl) ?_
 have hs98:=hs96.p3
 have hs99:=hs98.p3
 have hs100:=hs99.p3
 have okg102:GR.ok yc H89:=⟨okc.mok,okc.l,okc.bok,okc.bhk,okc.vok,okc.vhk⟩
 have hs101:St H89 _ (GR.res 67 53 63 39 78 81 37 yc ++ (obj g52 39 (clView cv)::L)):=St.grpShut (x:=yc) [obj g52 39 (clView cv)] hs100
 have hr103:kMove.rep H89 (GMove.mk 0 (i3 % 256) (2 ^ y.n - 1) false) [.int .u8 0,.int .u8 (((i3 % 256):Nat):Int),.int .u16 (((2 ^ y.n - 1):Nat):Int),.bool false]:=⟨rfl,(show 0 < 256 from by omega),(Nat.mod_lt _ (by decide)),hal.2⟩
 refine st_c cb21 .func (evs2 (.tmp rfl rfl) (.tmp rfl rfl)) (move_spec hs101 (x:=yc) okg102 (GMove.mk 0 (i3 % 256) (2 ^ y.n - 1) false) hr103 (hC.ok (by omega) (by omega)) (by omega) (htab.mono ((((hle6.trans hg12).trans hg57).trans hg65).trans hg90))) ?_
 rintro e w104 ⟨H106,gr108,hle107,rfl,okg109,hga110,hgn111,hgg112,hs105⟩
 refine ⟨_,rfl,?_⟩
 have hs113:St H106 _ (obj gr108.a 67 [.int .i64 ((gr108.n:Nat):Int),.slice gr108.A gr108.ln gr108.lc,gr108.bv,gr108.vv]::row 53 16 gr108.bv gr108.bag.length gr108.bc::row 63 1 gr108.vv gr108.vs.length gr108.vc::obj g52 39 (clView cv)::memsR 78 81 37 gr108.ms ++ (vrsR 39 gr108.vs ++ (L))):=St.grpOpen [obj g52 39 (clView cv)] hs105
 refine c_nil (n_block (n_then (c_region (st (v:=.int .i64 ((i3:Nat):Int)) (x_move (.tmp rfl hρ95)) ?_))))
 refine st (v:=.int .i64 (((i3 + 1):Nat):Int)) (x_add (k:=.i64) (a:=((i3:Nat):Int)) (b:=1) (.tmp rfl rfl) .const ((w64 (by omega) (by omega)).trans (by omega))) ?_
 refine st (v:=.int .i64 (((i3 + 1):Nat):Int)) (x_assign (.tmp rfl rfl)) ?_
 refine c_nil ?_
 have hlen9:gr108.bag.length ≤ yc.bag.length + yc.n:=by show gr108.g.bag.length ≤ yc.g.bag.length + yc.g.n; rw [hgg112]; exact GOk.mlen (hC.ok (by omega) (by omega)) _
 have hn9:gr108.n = yc.n:=hgn111
 refine n_then ⟨_,_,rfl,?_,H106,(i3 + 1),gr108,(hρ91.trans (congrArg (fun z => Value.pointer (some ⟨z,0,none⟩)) hga110.symm)),hρ92,hρ93,hρ94,rfl,(hg90.trans hle107),(by omega),okg109,(by rw [hgg112,move_tick (i:=i3) (e:=2 ^ yc.g.n - 1) (show i3 < yc.n by omega) rfl (show i3 % 256 = i3 by omega) (by show 2 ^ y.n - 1 = 2 ^ yc.n - 1; rw [hyn,hcn])]; exact hC.tick (show i3 < yc.n by omega) (by omega)),(by omega),(by omega),((((hs113.p2).p2).p2).p3),rfl⟩
 omega
 have hp97:¬ ((((i3:Nat):Int):Int) < ((yc.n:Nat):Int)):=of_decide_eq_false hc97
 refine c_cond_f (t:=false) (.tmp rfl (cVb hc97)) rfl ?_
 refine c_exit (x_then (x_then (x_here (n_then (c_seq (c_seq (c_region (st (v:=.int .i64 0) (x_assign .const) ?_))))))))
 refine c_nil (n_then (c_block ?_))
 have hD0:PhD k 0 T yc.g:=PhC.frames (by rw [show yc.g.n = i3 from (show yc.n = i3 by omega)]; exact hC)
 refine c_loop (fun ρ w mm => ∃ (H114:Hp) (c:Nat) (yd:GR),ρ 5 = .pointer (some ⟨yd.a,0,none⟩)∧ρ 7 = .int .u16 (((2 ^ y.n - 1):Nat):Int)∧ρ 8 = .pointer (some ⟨g52,0,none⟩)∧ρ 9 = .int .i64 ((k:Nat):Int)∧ρ 12 = .int .i64 ((c:Nat):Int)∧(H89.le H114)∧(c ≤ 1980)∧(GR.ok yd H114)∧(PhD k c T yd.g)∧(yd.n = (1 + z % 6))∧(yd.g.pot + c ≤ 1980)∧St H114 w (obj g52 39 (clView cv)::obj yd.a 67 [.int .i64 ((yd.n:Nat):Int),.slice yd.A yd.ln yd.lc,yd.bv,yd.vv]::row 53 16 yd.bv yd.bag.length yd.bc::row 63 1 yd.vv yd.vs.length yd.vc::memsR 78 81 37 yd.ms ++ (vrsR 39 yd.vs ++ (L)))∧mm = 1980 - c) _ ⟨H89,0,yc,hρ91,hρ92,hρ93,hρ94,rfl,(Hp.le.refl _),(by omega),okc,hD0,hcn,((hC.ok (by omega) (by omega)).pot6 (show yc.n ≤ 6 by omega) (show yc.bag.length ≤ 972 by omega)),((((hs96.p3).p3).p3).p3),rfl⟩ ?_
 rintro ρ w mm ⟨H114,c,yd,hρ116,hρ117,hρ118,hρ119,hρ120,hg115,hc,okd,hD,hdn,hpot,hs121,rfl⟩
 refine c_seq (c_seq (c_region (st (v:=.pointer (some ⟨yd.a,0,none⟩)) (x_move (.tmp rfl hρ116)) ?_)))
 refine st (v:=.pointer (some ⟨yd.a,0,none⟩)) (x_nilCheck (.tmp rfl rfl)) ?_
 refine st (v:=.pointer (some ⟨yd.a,0 + 2,none⟩)) (fa67_2 (.tmp rfl rfl)) ?_
 refine st (v:=yd.bv) (ld27 (.tmp rfl rfl) (hs121.cell 1 rfl (0 + 2) rfl)) ?_
 obtain ⟨A122,c123,hv124,hc125⟩:=okd.bok.slice
 refine st (v:=.int .i64 ((yd.bag.length:Nat):Int)) (x_len (n:=yd.bag.length) Tryd.underlying27 (.tmp rfl hv124)) ?_
 refine st (v:=.bool (decide ((0:Int) < ((yd.bag.length:Nat):Int)))) (x_gtr (k:=.i64) (a:=((yd.bag.length:Nat):Int)) (b:=0) (.tmp rfl rfl) .const) ?_
 refine c_nil (n_then ?_)
 rcases Bool.eq_false_or_eq_true (decide ((0:Int) < ((yd.bag.length:Nat):Int))) with hc126 | hc126
 have hp126:(0:Int) < ((yd.bag.length:Nat):Int):=of_decide_eq_true hc126
 refine c_cond_t (t:=true) (.tmp rfl (cVb hc126)) rfl ?_
 refine c_skip (n_then (c_seq (c_block (c_seq (c_region (st (v:=.pointer (some ⟨yd.a,0,none⟩)) (x_move (.tmp rfl hρ116)) ?_))))))
 refine st (v:=.agg #[.int .u8 3,.int .u8 0,.int .u16 0,.bool false]) (bl62 (ps:=[(0,.int .u8 3)]) (.cons .const Evp.nil) rfl) ?_
 have hs127:=hs121.p3
 have hs128:=hs127.p3
 have hs129:=hs128.p3
 have okg131:GR.ok yd H114:=⟨okd.mok,okd.l,okd.bok,okd.bhk,okd.vok,okd.vhk⟩
 have hs130:St H114 _ (GR.res 67 53 63 39 78 81 37 yd ++ (obj g52 39 (clView cv)::L)):=St.grpShut (x:=yd) [obj g52 39 (clView cv)] hs129
 have hr132:kMove.rep H114 (GMove.mk 3 0 0 false) [.int .u8 3,.int .u8 0,.int .u16 0,.bool false]:=⟨rfl,(show 3 < 256 from by omega),(show 0 < 256 from by omega),(show 0 < 65536 from by omega)⟩
 refine st_c cb21 .func (evs2 (.tmp rfl rfl) (.tmp rfl rfl)) (move_spec hs130 (x:=yd) okg131 (GMove.mk 3 0 0 false) hr132 (hD.ok (by omega) (by omega)) (by have h9:yd.bag.length ≤ yd.g.pot:=(hD.ok (by omega) (by omega)).pot.1; omega) (htab.mono (((((hle6.trans hg12).trans hg57).trans hg65).trans hg90).trans hg115))) ?_
 rintro e w133 ⟨H135,gr137,hle136,rfl,okg138,hga139,hgn140,hgg141,hs134⟩
 refine ⟨_,rfl,?_⟩
 have hs142:St H135 _ (obj gr137.a 67 [.int .i64 ((gr137.n:Nat):Int),.slice gr137.A gr137.ln gr137.lc,gr137.bv,gr137.vv]::row 53 16 gr137.bv gr137.bag.length gr137.bc::row 63 1 gr137.vv gr137.vs.length gr137.vc::obj g52 39 (clView cv)::memsR 78 81 37 gr137.ms ++ (vrsR 39 gr137.vs ++ (L))):=St.grpOpen [obj g52 39 (clView cv)] hs134
 refine c_nil (n_then (c_seq (c_region (st (v:=.int .i64 ((c:Nat):Int)) (x_move (.tmp rfl hρ120)) ?_))))
 refine st (v:=.bool (decide ((5000:Int) < ((c:Nat):Int)))) (x_gtr (k:=.i64) (a:=((c:Nat):Int)) (b:=5000) (.tmp rfl rfl) .const) ?_
 refine c_nil (n_then ?_)
 have hc143:(decide ((5000:Int) < ((c:Nat):Int))) = false:=(decide_eq_false (by omega))
 have hp143:¬ ((5000:Int) < ((c:Nat):Int)):=of_decide_eq_false hc143
 refine c_cond_f (t:=false) (.tmp rfl (cVb hc143)) rfl ?_
 refine c_skip (n_block (n_then (c_region (st (v:=.int .i64 ((c:Nat):Int)) (x_move (.tmp rfl hρ120)) ?_))))
 refine st (v:=.int .i64 (((c + 1):Nat):Int)) (x_add (k:=.i64) (a:=((c:Nat):Int)) (b:=1) (.tmp rfl rfl) .const ((w64 (by omega) (by omega)).trans (by omega))) ?_
 refine st (v:=.int .i64 (((c + 1):Nat):Int)) (x_assign (.tmp rfl rfl)) ?_
 refine c_nil ?_
 have hlen9:gr137.bag.length ≤ yd.bag.length + yd.n:=by show gr137.g.bag.length ≤ yd.g.bag.length + yd.g.n; rw [hgg141]; exact GOk.mlen (hD.ok (by omega) (by omega)) _
 have hn9:gr137.n = yd.n:=hgn140
 have hpc:=hD.comes (fun h9 => by have h8:yd.bag.length = 0:=congrArg List.length h9; omega)
 have hm9:gr137.g = yd.g.comes 0 false true:=by rw [hgg141,move_next rfl rfl rfl]
 refine n_then ⟨_,_,rfl,?_,H135,(c + 1),gr137,(hρ116.trans (congrArg (fun z => Value.pointer (some ⟨z,0,none⟩)) hga139.symm)),hρ117,hρ118,hρ119,rfl,(hg115.trans hle136),(by have h9:=hpc.2; rw [← hm9] at h9; omega),okg138,(by rw [hm9]; exact hpc.1),(by omega),(by have h9:=hpc.2; rw [← hm9] at h9; omega),((((hs142.p2).p2).p2).p3),rfl⟩
 omega
 have hp126:¬ ((0:Int) < ((yd.bag.length:Nat):Int)):=of_decide_eq_false hc126
 refine c_cond_f (t:=false) (.tmp rfl (cVb hc126)) rfl ?_
 refine c_exit (x_then (x_then (x_here (n_then (c_seq (c_seq (c_region ?_)))))))
 have hpl2:=okd.l.len
 have hms:=gok_ms (hD.ok (by omega) (by omega))
 have hpl:(ptrs yd.ms).length = yd.ms.length:=by unfold ptrs; rw [List.length_map]
 obtain ⟨T2,hA2,hT2⟩:=hD.done (List.eq_nil_of_length_eq_zero (show yd.bag.length = 0 by omega)) (by omega)
 refine st (v:=.int .i64 ((k:Nat):Int)) (x_move (.tmp rfl hρ119)) ?_
 refine st (v:=.bool (decide ((((k:Nat):Int):Int) < 2))) (x_lss (k:=.i64) (a:=((k:Nat):Int)) (b:=2) (.tmp rfl rfl) .const) ?_
 refine c_nil (n_then ?_)
 rcases Bool.eq_false_or_eq_true (decide ((((k:Nat):Int):Int) < 2)) with hc144 | hc144
 have hp144:(((k:Nat):Int):Int) < 2:=of_decide_eq_true hc144
 refine c_cond_t (t:=true) (.tmp rfl (cVb hc144)) rfl ?_
 refine c_exit (x_then (x_here (n_then (c_region (st (v:=.int .i64 ((k:Nat):Int)) (x_move (.tmp rfl hρ119)) ?_)))))
 refine st (v:=.int .i64 (((k + 1):Nat):Int)) (x_add (k:=.i64) (a:=((k:Nat):Int)) (b:=1) (.tmp rfl rfl) .const ((w64 (by omega) (by omega)).trans (by omega))) ?_
 refine st (v:=.int .i64 (((k + 1):Nat):Int)) (x_assign (.tmp rfl rfl)) ?_
 refine c_nil ?_
 refine n_then ⟨_,_,rfl,?_,H114,(k + 1),yd,T2,cv,hρ116,hρ117,hρ118,rfl,(((hg57.trans hg65).trans hg90).trans hg115),(by omega),okd,hA2,hdn,(by omega),(fun h => absurd h (by omega)),bcv,icv,scv,((((hs121.p3).p3).p3).p3),rfl⟩
 omega
 have hp144:¬ ((((k:Nat):Int):Int) < 2):=of_decide_eq_false hc144
 refine c_cond_f (t:=false) (.tmp rfl (cVb hc144)) rfl ?_
 refine c_skip (n_then (c_seq (c_seq (c_region (st (v:=.int .i64 ((k:Nat):Int)) (x_move (.tmp rfl hρ119)) ?_)))))
 refine st (v:=.bool (decide ((((k:Nat):Int):Int) = 2))) (x_eql (k:=.i64) (a:=((k:Nat):Int)) (b:=2) (.tmp rfl rfl) .const) ?_
 refine c_nil (n_then ?_)
 rcases Bool.eq_false_or_eq_true (decide ((((k:Nat):Int):Int) = 2)) with hc145 | hc145
 have hp145:(((k:Nat):Int):Int) = 2:=of_decide_eq_true hc145
 refine c_cond_t (t:=true) (.tmp rfl (cVb hc145)) rfl ?_
 refine c_region (st (v:=.pointer (some ⟨yd.a,0,none⟩)) (x_move (.tmp rfl hρ116)) ?_)
 refine st (v:=.pointer (some ⟨yd.a,0,none⟩)) (x_nilCheck (.tmp rfl rfl)) ?_
 refine st (v:=.pointer (some ⟨yd.a,0 + 1,none⟩)) (fa67_1 (.tmp rfl rfl)) ?_
 refine st (v:=.slice yd.A yd.ln yd.lc) (ld64 (.tmp rfl rfl) (hs121.cell 1 rfl (0 + 1) rfl)) ?_
 obtain ⟨e146,b147,o148,cs149,hx150,hA151,hr152,hat153⟩:=okd.l.get (i:=0) (by omega)
 obtain ⟨rfl⟩:=hr152
 have hat153x:∀ {w:World} {L:List Res},St H114 w L → At w ⟨b147,o148 + 0 * 1,none⟩ [.pointer (some ⟨e146,0,none⟩)]:=fun h => hat153 h
 obtain ⟨mm154,hm155,hg156⟩:=ptr_at hx150
 refine st (v:=.pointer (some ⟨b147,(o148 + 0 * 1),none⟩)) (ixo64 (.tmp rfl rfl) hA151 (i:=0) .const (by omega) (by omega) (by omega)) ?_
 refine st (v:=.pointer (some ⟨e146,0,none⟩)) (ld23 (.tmp rfl rfl) ((hat153x hs121).cell 0 rfl)) ?_
 have hs157:St H114 _ (MM.res 78 81 37 mm154 ++ (obj g52 39 (clView cv)::obj yd.a 67 [.int .i64 ((yd.n:Nat):Int),.slice yd.A yd.ln yd.lc,yd.bv,yd.vv]::row 53 16 yd.bv yd.bag.length yd.bc::row 63 1 yd.vv yd.vs.length yd.vc::memsR 78 81 37 (yd.ms.eraseIdx 0) ++ (vrsR 39 yd.vs ++ (L)))):=St.mmOut [obj g52 39 (clView cv),obj yd.a 67 [.int .i64 ((yd.n:Nat):Int),.slice yd.A yd.ln yd.lc,yd.bv,yd.vv],row 53 16 yd.bv yd.bag.length yd.bc,row 63 1 yd.vv yd.vs.length yd.vc] hs121 hm155
 refine st_c cb14 .func (evs1 (.tmp rfl (congrArg (fun z => Value.pointer (some ⟨z,0,none⟩)) hg156.symm))) (cur_mm hs157 (x:=mm154) (MsOk.get okd.mok hm155) ) ?_
 rintro e w158 ⟨cs160,rfl,hr161,hs159⟩
 obtain ⟨rfl,b162,⟨b163,b164⟩,b165⟩:=hr161
 refine ⟨_,rfl,?_⟩
 have hs166:St H114 _ (obj g52 39 (clView cv)::obj yd.a 67 [.int .i64 ((yd.n:Nat):Int),.slice yd.A yd.ln yd.lc,yd.bv,yd.vv]::row 53 16 yd.bv yd.bag.length yd.bc::row 63 1 yd.vv yd.vs.length yd.vc::memsR 78 81 37 yd.ms ++ (vrsR 39 yd.vs ++ (L))):=St.mmBack [obj g52 39 (clView cv),obj yd.a 67 [.int .i64 ((yd.n:Nat):Int),.slice yd.A yd.ln yd.lc,yd.bv,yd.vv],row 53 16 yd.bv yd.bag.length yd.bc,row 63 1 yd.vv yd.vs.length yd.vc] hs159 hm155
 refine st_m0 (sto39 (cs':=[.int .u64 ((mm154.m.cur.ID.N:Nat):Int),.int .i64 mm154.m.cur.ID.P,.int .u16 ((mm154.m.cur.Set:Nat):Int)]) (i:=0) hs166 (v:=.agg #[.int .u64 ((mm154.m.cur.ID.N:Nat):Int),.int .i64 mm154.m.cur.ID.P,.int .u16 ((mm154.m.cur.Set:Nat):Int)]) (.tmp rfl hρ118) (.tmp rfl rfl) rfl (Nat.le_of_ble_eq_true rfl) (oneA rfl) rfl) ?_
 rintro w167 hs169
 refine c_nil (n_then (c_seq (c_region (st (v:=.int .i64 0) (x_assign .const) ?_))))
 refine c_nil (n_then (c_block ?_))
 have hcv:mm154.m.cur = T2:=by have h9:=(hA2.all (by omega) (show 0 < yd.n by omega)).1; rw [gok_m hm155] at h9; exact h9
 have hset:mm154.m.cur.Set = 2 ^ y.n - 1:=by rw [hcv,(hA2.all (by omega) (show 0 < yd.n by omega)).2.1]; show 2 ^ yd.n - 1 = 2 ^ y.n - 1; rw [hdn,hyn]
 refine c_loop (fun ρ w mm => ∃ (i5:Nat),ρ 5 = .pointer (some ⟨yd.a,0,none⟩)∧ρ 7 = .int .u16 (((2 ^ y.n - 1):Nat):Int)∧ρ 8 = .pointer (some ⟨g52,0,none⟩)∧ρ 9 = .int .i64 ((k:Nat):Int)∧ρ 13 = .int .i64 ((i5:Nat):Int)∧(i5 ≤ (1 + z % 6))∧St H114 w (obj g52 39 (clView mm154.m.cur)::obj yd.a 67 [.int .i64 ((yd.n:Nat):Int),.slice yd.A yd.ln yd.lc,yd.bv,yd.vv]::row 53 16 yd.bv yd.bag.length yd.bc::row 63 1 yd.vv yd.vs.length yd.vc::memsR 78 81 37 yd.ms ++ (vrsR 39 yd.vs ++ (L)))∧mm = (1 + z % 6) - i5) _ ⟨0,hρ116,hρ117,hρ118,hρ119,rfl,(by omega),((((hs169.p3).p3).p3).p3),rfl⟩ ?_
 rintro ρ w mm ⟨i5,hρ171,hρ172,hρ173,hρ174,hρ175,hi5,hs176,rfl⟩
 refine c_seq (c_seq (c_region (st (v:=.int .i64 ((i5:Nat):Int)) (x_move (.tmp rfl hρ175)) ?_)))
 refine st (v:=.pointer (some ⟨yd.a,0,none⟩)) (x_move (.tmp rfl hρ171)) ?_
 refine st (v:=.pointer (some ⟨yd.a,0,none⟩)) (x_nilCheck (.tmp rfl rfl)) ?_
 refine st (v:=.pointer (some ⟨yd.a,0 + 0,none⟩)) (fa67_0 (.tmp rfl rfl)) ?_
 refine st (v:=.int .i64 ((yd.n:Nat):Int)) (ld3 (.tmp rfl rfl) (hs176.cell 1 rfl (0 + 0) rfl)) ?_
 refine st (v:=.bool (decide ((((i5:Nat):Int):Int) < ((yd.n:Nat):Int)))) (x_lss (k:=.i64) (a:=((i5:Nat):Int)) (b:=((yd.n:Nat):Int)) (.tmp rfl rfl) (.tmp rfl rfl)) ?_
 refine c_nil (n_then ?_)
 rcases Bool.eq_false_or_eq_true (decide ((((i5:Nat):Int):Int) < ((yd.n:Nat):Int))) with hc177 | hc177
 have hp177:(((i5:Nat):Int):Int) < ((yd.n:Nat):Int):=of_decide_eq_true hc177
 refine c_cond_t (t:=true) (.tmp rfl (cVb hc177)) rfl ?_
 refine c_skip (n_then (c_seq (c_block (c_seq (t_region (L:=obj g52 39 (clView mm154.m.cur)::obj yd.a 67 [.int .i64 ((yd.n:Nat):Int),.slice yd.A yd.ln yd.lc,yd.bv,yd.vv]::row 53 16 yd.bv yd.bag.length yd.bc::row 63 1 yd.vv yd.vs.length yd.vc::memsR 78 81 37 yd.ms ++ (vrsR 39 yd.vs ++ (L))) (L':=obj g52 39 (clView mm154.m.cur)::obj yd.a 67 [.int .i64 ((yd.n:Nat):Int),.slice yd.A yd.ln yd.lc,yd.bv,yd.vv]::row 53 16 yd.bv yd.bag.length yd.bc::row 63 1 yd.vv yd.vs.length yd.vc::L) (Z:=[]) (F:=[]) (pl:=(.q 0 (.q 1 (.q 2 (.q 3 (.q 4 (.q 5 (.q 6 (.q 8 (.e 7 (.q 9 (.q 10 (.q 11 (.q 12 (.q 13 (.q 14 (.q 15 (.q 16 (.q 17 (.q 18 (.q 19 (.q 20 (.q 21 (.q 22 (.q 23 (.e 24 (.q 25 (.q 26 .done)))))))))))))))))))))))))))) mixed hs176 (fun u hu => (St.dropL [obj g52 39 (clView mm154.m.cur),obj yd.a 67 [.int .i64 ((yd.n:Nat):Int),.slice yd.A yd.ln yd.lc,yd.bv,yd.vv],row 53 16 yd.bv yd.bag.length yd.bc,row 63 1 yd.vv yd.vs.length yd.vc] (St.dropL [obj g52 39 (clView mm154.m.cur),obj yd.a 67 [.int .i64 ((yd.n:Nat):Int),.slice yd.A yd.ln yd.lc,yd.bv,yd.vv],row 53 16 yd.bv yd.bag.length yd.bc,row 63 1 yd.vv yd.vs.length yd.vc] hu))) (by kernel_rfl) ?_)))))
 intro w178 hs179
 refine t_st (k:=0) (v:=.pointer (some ⟨yd.a,0,none⟩)) rfl rfl (fun w hs => (x_move (.tmp rfl hρ171))) ?_
 refine t_st (k:=1) (v:=.pointer (some ⟨yd.a,0,none⟩)) rfl rfl (fun w hs => (x_nilCheck (.tmp rfl rfl))) ?_
 refine t_st (k:=2) (v:=.pointer (some ⟨yd.a,0 + 1,none⟩)) rfl rfl (fun w hs => (fa67_1 (.tmp rfl rfl))) ?_
 refine t_st (k:=3) (v:=.slice yd.A yd.ln yd.lc) rfl rfl (fun w hs => (ld64 (.tmp rfl rfl) (hs.cell 1 rfl (0 + 1) rfl))) ?_
 refine t_st (k:=4) (v:=.int .i64 ((i5:Nat):Int)) rfl rfl (fun w hs => (x_move (.tmp rfl hρ175))) ?_
 obtain ⟨e180,b181,o182,cs183,hx184,hA185,hr186,hat187⟩:=okd.l.get (i:=i5) (by omega)
 obtain ⟨rfl⟩:=hr186
 have hat187x:∀ {w:World} {L:List Res},St H114 w L → At w ⟨b181,o182 + i5 * 1,none⟩ [.pointer (some ⟨e180,0,none⟩)]:=fun h => hat187 h
 obtain ⟨mm188,hm189,hg190⟩:=ptr_at hx184
 refine t_st (k:=5) (v:=.pointer (some ⟨b181,(o182 + i5 * 1),none⟩)) rfl rfl (fun w hs => (ixo64 (.tmp rfl rfl) hA185 (i:=((i5:Nat):Int)) (.tmp rfl rfl) (by omega) (by omega) (by omega))) ?_
 refine t_st (k:=6) (v:=.pointer (some ⟨e180,0,none⟩)) rfl rfl (fun w hs => (ld23 (.tmp rfl rfl) ((hat187x hs).cell 0 rfl))) ?_
 refine t_st (k:=8) (v:=.agg #[.int .u64 ((mm154.m.cur.ID.N:Nat):Int),.int .i64 mm154.m.cur.ID.P,.int .u16 ((mm154.m.cur.Set:Nat):Int)]) rfl rfl (fun w hs => (ld39 (cs:=[.int .u64 ((mm154.m.cur.ID.N:Nat):Int),.int .i64 mm154.m.cur.ID.P,.int .u16 ((mm154.m.cur.Set:Nat):Int)]) (.tmp rfl hρ173) (hs.at_ 0 rfl (0) rfl) rfl)) ?_
 refine t_eff (k:=7) rfl ?_
 have hs191:St H114 _ (MM.res 78 81 37 mm188 ++ (obj g52 39 (clView mm154.m.cur)::obj yd.a 67 [.int .i64 ((yd.n:Nat):Int),.slice yd.A yd.ln yd.lc,yd.bv,yd.vv]::row 53 16 yd.bv yd.bag.length yd.bc::row 63 1 yd.vv yd.vs.length yd.vc::memsR 78 81 37 (yd.ms.eraseIdx i5) ++ (vrsR 39 yd.vs ++ (L)))):=St.mmOut [obj g52 39 (clView mm154.m.cur),obj yd.a 67 [.int .i64 ((yd.n:Nat):Int),.slice yd.A yd.ln yd.lc,yd.bv,yd.vv],row 53 16 yd.bv yd.bag.length yd.bc,row 63 1 yd.vv yd.vs.length yd.vc] hs179 hm189
 refine st_c cb14 .func (evs1 (.tmp rfl (congrArg (fun z => Value.pointer (some ⟨z,0,none⟩)) hg190.symm))) (cur_mm hs191 (x:=mm188) (MsOk.get okd.mok hm189) ) ?_
 rintro e w192 ⟨cs194,rfl,hr195,hs193⟩
 obtain ⟨rfl,b196,⟨b197,b198⟩,b199⟩:=hr195
 refine ⟨_,rfl,?_⟩
 have hs200:St H114 _ (obj g52 39 (clView mm154.m.cur)::obj yd.a 67 [.int .i64 ((yd.n:Nat):Int),.slice yd.A yd.ln yd.lc,yd.bv,yd.vv]::row 53 16 yd.bv yd.bag.length yd.bc::row 63 1 yd.vv yd.vs.length yd.vc::memsR 78 81 37 yd.ms ++ (vrsR 39 yd.vs ++ (L))):=St.mmBack [obj g52 39 (clView mm154.m.cur),obj yd.a 67 [.int .i64 ((yd.n:Nat):Int),.slice yd.A yd.ln yd.lc,yd.bv,yd.vv],row 53 16 yd.bv yd.bag.length yd.bc,row 63 1 yd.vv yd.vs.length yd.vc] hs193 hm189
 refine t_on (S':=fun u => St H114 u (obj g52 39 (clView mm154.m.cur)::obj yd.a 67 [.int .i64 ((yd.n:Nat):Int),.slice yd.A yd.ln yd.lc,yd.bv,yd.vv]::row 53 16 yd.bv yd.bag.length yd.bc::row 63 1 yd.vv yd.vs.length yd.vc::L)) (fun u hu => hu) (St.dropL [obj g52 39 (clView mm154.m.cur),obj yd.a 67 [.int .i64 ((yd.n:Nat):Int),.slice yd.A yd.ln yd.lc,yd.bv,yd.vv],row 53 16 yd.bv yd.bag.length yd.bc,row 63 1 yd.vv yd.vs.length yd.vc] (St.dropL [obj g52 39 (clView mm154.m.cur),obj yd.a 67 [.int .i64 ((yd.n:Nat):Int),.slice yd.A yd.ln yd.lc,yd.bv,yd.vv],row 53 16 yd.bv yd.bag.length yd.bc,row 63 1 yd.vv yd.vs.length yd.vc] hs200)) ?_
 refine t_st (k:=9) (v:=.bool (!(((((mm188.m.cur.ID.N:Nat):Int) == ((mm154.m.cur.ID.N:Nat):Int)) && ((mm188.m.cur.ID.P == mm154.m.cur.ID.P) && true)) && ((((mm188.m.cur.Set:Nat):Int) == ((mm154.m.cur.Set:Nat):Int)) && true)))) rfl rfl (fun w hs => (x_neqA eqg39 (.tmp rfl rfl) (.tmp rfl rfl) (fun d => eqs39 (d + 97) _ ((mm188.m.cur.ID.N:Nat):Int) ((mm154.m.cur.ID.N:Nat):Int) mm188.m.cur.ID.P mm154.m.cur.ID.P ((mm188.m.cur.Set:Nat):Int) ((mm154.m.cur.Set:Nat):Int)))) ?_
 refine t_st (k:=10) (v:=.bool (!(decide (mm188.m.cur = mm154.m.cur)))) rfl rfl (fun w hs => (x_move (.tmp rfl (congrArg (fun z => Value.bool (!z)) (GView.beq_dec mm188.m.cur mm154.m.cur))))) ?_
 have hc201:(decide (mm188.m.cur = mm154.m.cur)) = true:=(decide_eq_true (by have h9:=(hA2.all (by omega) (show i5 < yd.n by omega)).1; rw [gok_m hm189] at h9; rw [h9,hcv]))
 have hp201:mm188.m.cur = mm154.m.cur:=of_decide_eq_true hc201
 refine t_yes (k:=11) (v:=.pointer (some ⟨g52,0 + 2,none⟩)) rfl rfl (yl (dj:=118) (b:=false) rfl rfl (cVb (by rw [hc201]; rfl))) (fun w hs => (fa39_1 (.tmp rfl hρ173))) ?_
 refine t_yes (k:=12) (v:=.int .u16 ((mm154.m.cur.Set:Nat):Int)) rfl rfl (yl (dj:=118) (b:=false) rfl rfl (cVb (by rw [hc201]; rfl))) (fun w hs => (ld31 (.tmp rfl rfl) (hs.cell 0 rfl (0 + 2) rfl))) ?_
 refine t_yes (k:=13) (v:=.int .u16 (((2 ^ y.n - 1):Nat):Int)) rfl rfl (yl (dj:=118) (b:=false) rfl rfl (cVb (by rw [hc201]; rfl))) (fun w hs => (x_move (.tmp rfl hρ172))) ?_
 refine t_yes (k:=14) (v:=.bool (decide ((((mm154.m.cur.Set:Nat):Int):Int) ≠ (((2 ^ y.n - 1):Nat):Int)))) rfl rfl (yl (dj:=118) (b:=false) rfl rfl (cVb (by rw [hc201]; rfl))) (fun w hs => (x_neq (k:=.u16) (a:=((mm154.m.cur.Set:Nat):Int)) (b:=(((2 ^ y.n - 1):Nat):Int)) (.tmp rfl rfl) (.tmp rfl rfl))) ?_
 refine t_st (k:=15) (v:=.bool (decide ((((mm154.m.cur.Set:Nat):Int):Int) ≠ (((2 ^ y.n - 1):Nat):Int)))) rfl rfl (fun w hs => (x_pick_f (.tmp rfl (cVb (by rw [hc201]; rfl))) (.tmp rfl rfl))) ?_
 refine t_st (k:=16) (v:=.bool (decide ((((mm154.m.cur.Set:Nat):Int):Int) ≠ (((2 ^ y.n - 1):Nat):Int)))) rfl rfl (fun w hs => (x_move (.tmp rfl rfl))) ?_
 have hc202:(decide ((((mm154.m.cur.Set:Nat):Int):Int) ≠ (((2 ^ y.n - 1):Nat):Int))) = false:=(decide_eq_false (fun hne => hne (by rw [hset])))
 have hp202:¬ ((((mm154.m.cur.Set:Nat):Int):Int) ≠ (((2 ^ y.n - 1):Nat):Int)):=of_decide_eq_false hc202
 refine t_yes (k:=17) (v:=.pointer (some ⟨yd.a,0,none⟩)) rfl rfl (yk 124 false rfl rfl hc202) (fun w hs => (x_move (.tmp rfl hρ171))) ?_
 refine t_yes (k:=18) (v:=.pointer (some ⟨yd.a,0,none⟩)) rfl rfl (yk 124 false rfl rfl hc202) (fun w hs => (x_nilCheck (.tmp rfl rfl))) ?_
 refine t_yes (k:=19) (v:=.pointer (some ⟨yd.a,0 + 1,none⟩)) rfl rfl (yk 124 false rfl rfl hc202) (fun w hs => (fa67_1 (.tmp rfl rfl))) ?_
 refine t_yes (k:=20) (v:=.slice yd.A yd.ln yd.lc) rfl rfl (yk 124 false rfl rfl hc202) (fun w hs => (ld64 (.tmp rfl rfl) (hs.cell 1 rfl (0 + 1) rfl))) ?_
 refine t_yes (k:=21) (v:=.int .i64 ((i5:Nat):Int)) rfl rfl (yk 124 false rfl rfl hc202) (fun w hs => (x_move (.tmp rfl hρ175))) ?_
 refine t_yes (k:=22) (v:=.pointer (some ⟨b181,(o182 + i5 * 1),none⟩)) rfl rfl (yk 124 false rfl rfl hc202) (fun w hs => (ixo64 (.tmp rfl rfl) hA185 (i:=((i5:Nat):Int)) (.tmp rfl rfl) (by omega) (by omega) (by omega))) ?_
 refine t_yes (k:=23) (v:=.pointer (some ⟨e180,0,none⟩)) rfl rfl (yk 124 false rfl rfl hc202) (fun w hs => (ld23 (.tmp rfl rfl) ((hat187x hs).cell 0 rfl))) ?_
 refine t_eff (k:=24) rfl ?_
 refine g_yes (yk 124 false rfl rfl hc202) ?_
 have hs203:St H114 _ (MM.res 78 81 37 mm188 ++ (obj g52 39 (clView mm154.m.cur)::obj yd.a 67 [.int .i64 ((yd.n:Nat):Int),.slice yd.A yd.ln yd.lc,yd.bv,yd.vv]::row 53 16 yd.bv yd.bag.length yd.bc::row 63 1 yd.vv yd.vs.length yd.vc::memsR 78 81 37 (yd.ms.eraseIdx i5) ++ (vrsR 39 yd.vs ++ (L)))):=St.mmOut [obj g52 39 (clView mm154.m.cur),obj yd.a 67 [.int .i64 ((yd.n:Nat):Int),.slice yd.A yd.ln yd.lc,yd.bv,yd.vv],row 53 16 yd.bv yd.bag.length yd.bc,row 63 1 yd.vv yd.vs.length yd.vc] hs200 hm189
 refine st_c cb15 .func (evs1 (.tmp rfl (congrArg (fun z => Value.pointer (some ⟨z,0,none⟩)) hg190.symm))) (opn_mm hs203 (x:=mm188) (MsOk.get okd.mok hm189) ) ?_
 rintro e w204 ⟨rfl,hs205⟩
 refine ⟨_,rfl,?_⟩
 have hs206:St H114 _ (obj g52 39 (clView mm154.m.cur)::obj yd.a 67 [.int .i64 ((yd.n:Nat):Int),.slice yd.A yd.ln yd.lc,yd.bv,yd.vv]::row 53 16 yd.bv yd.bag.length yd.bc::row 63 1 yd.vv yd.vs.length yd.vc::memsR 78 81 37 yd.ms ++ (vrsR 39 yd.vs ++ (L))):=St.mmBack [obj g52 39 (clView mm154.m.cur),obj yd.a 67 [.int .i64 ((yd.n:Nat):Int),.slice yd.A yd.ln yd.lc,yd.bv,yd.vv],row 53 16 yd.bv yd.bag.length yd.bc,row 63 1 yd.vv yd.vs.length yd.vc] hs205 hm189
 refine t_on (S':=fun u => St H114 u (obj g52 39 (clView mm154.m.cur)::obj yd.a 67 [.int .i64 ((yd.n:Nat):Int),.slice yd.A yd.ln yd.lc,yd.bv,yd.vv]::row 53 16 yd.bv yd.bag.length yd.bc::row 63 1 yd.vv yd.vs.length yd.vc::L)) (fun u hu => hu) (St.dropL [obj g52 39 (clView mm154.m.cur),obj yd.a 67 [.int .i64 ((yd.n:Nat):Int),.slice yd.A yd.ln yd.lc,yd.bv,yd.vv],row 53 16 yd.bv yd.bag.length yd.bc,row 63 1 yd.vv yd.vs.length yd.vc] (St.dropL [obj g52 39 (clView mm154.m.cur),obj yd.a 67 [.int .i64 ((yd.n:Nat):Int),.slice yd.A yd.ln yd.lc,yd.bv,yd.vv],row 53 16 yd.bv yd.bag.length yd.bc,row 63 1 yd.vv yd.vs.length yd.vc] hs206)) ?_
 refine t_yes (k:=25) (v:=.bool (!mm188.m.opn)) rfl rfl (yk 124 false rfl rfl hc202) (fun w hs => (x_not (.tmp rfl rfl))) ?_
 refine t_st (k:=26) (v:=.bool (!mm188.m.opn)) rfl rfl (fun w hs => (x_pick_f (.tmp rfl (cVb hc202)) (.tmp rfl rfl))) ?_
 refine t_nil ?_
 refine n_then ?_
 have hc207:mm188.m.opn = true:=(by have h9:=(hA2.all (by omega) (show i5 < yd.n by omega)).2.2; rw [gok_m hm189] at h9; exact h9)
 refine c_cond_f (t:=false) (.tmp rfl (cVb (by rw [hc207]; rfl))) rfl ?_
 refine c_skip (n_block (n_then (c_region (st (v:=.int .i64 ((i5:Nat):Int)) (x_move (.tmp rfl hρ175)) ?_))))
 refine st (v:=.int .i64 (((i5 + 1):Nat):Int)) (x_add (k:=.i64) (a:=((i5:Nat):Int)) (b:=1) (.tmp rfl rfl) .const ((w64 (by omega) (by omega)).trans (by omega))) ?_
 refine st (v:=.int .i64 (((i5 + 1):Nat):Int)) (x_assign (.tmp rfl rfl)) ?_
 refine c_nil ?_
 refine n_then ⟨_,_,rfl,?_,(i5 + 1),hρ171,hρ172,hρ173,hρ174,rfl,(by omega),((((hs206.p3).p3).p3).p3),rfl⟩
 omega
 have hp177:¬ ((((i5:Nat):Int):Int) < ((yd.n:Nat):Int)):=of_decide_eq_false hc177
 refine c_cond_f (t:=false) (.tmp rfl (cVb hc177)) rfl ?_
 refine c_exit (x_then (x_then (x_here (n_block (n_then (c_region (st (v:=.int .i64 ((k:Nat):Int)) (x_move (.tmp rfl hρ174)) ?_)))))))
 refine st (v:=.int .i64 (((k + 1):Nat):Int)) (x_add (k:=.i64) (a:=((k:Nat):Int)) (b:=1) (.tmp rfl rfl) .const ((w64 (by omega) (by omega)).trans (by omega))) ?_
 refine st (v:=.int .i64 (((k + 1):Nat):Int)) (x_assign (.tmp rfl rfl)) ?_
 refine c_nil ?_
 refine n_then ⟨_,_,rfl,?_,H114,(k + 1),yd,T2,mm154.m.cur,hρ171,hρ172,hρ173,rfl,(((hg57.trans hg65).trans hg90).trans hg115),(by omega),okd,hA2,hdn,(by omega),(fun _ => hcv),b162,⟨b163,b164⟩,b165,((((hs176.p3).p3).p3).p3),rfl⟩
 omega
 have hp145:¬ ((((k:Nat):Int):Int) = 2):=of_decide_eq_false hc145
 refine c_cond_f (t:=false) (.tmp rfl (cVb hc145)) rfl ?_
 refine c_skip (n_then (c_seq (c_region (st (v:=.int .i64 0) (x_assign .const) ?_))))
 refine c_nil (n_then (c_block ?_))
 have hcv:cv = T2:=(hT (by omega)).trans (hT2 (by omega)).symm
 have hset:cv.Set = 2 ^ y.n - 1:=by rw [hcv,(hA2.all (by omega) (show 0 < yd.n by omega)).2.1]; show 2 ^ yd.n - 1 = 2 ^ y.n - 1; rw [hdn,hyn]
 refine c_loop (fun ρ w mm => ∃ (i5:Nat),ρ 5 = .pointer (some ⟨yd.a,0,none⟩)∧ρ 7 = .int .u16 (((2 ^ y.n - 1):Nat):Int)∧ρ 8 = .pointer (some ⟨g52,0,none⟩)∧ρ 9 = .int .i64 ((k:Nat):Int)∧ρ 13 = .int .i64 ((i5:Nat):Int)∧(i5 ≤ (1 + z % 6))∧St H114 w (obj g52 39 (clView cv)::obj yd.a 67 [.int .i64 ((yd.n:Nat):Int),.slice yd.A yd.ln yd.lc,yd.bv,yd.vv]::row 53 16 yd.bv yd.bag.length yd.bc::row 63 1 yd.vv yd.vs.length yd.vc::memsR 78 81 37 yd.ms ++ (vrsR 39 yd.vs ++ (L)))∧mm = (1 + z % 6) - i5) _ ⟨0,hρ116,hρ117,hρ118,hρ119,rfl,(by omega),((((hs121.p3).p3).p3).p3),rfl⟩ ?_
 rintro ρ w mm ⟨i5,hρ209,hρ210,hρ211,hρ212,hρ213,hi5,hs214,rfl⟩
 refine c_seq (c_seq (c_region (st (v:=.int .i64 ((i5:Nat):Int)) (x_move (.tmp rfl hρ213)) ?_)))
 refine st (v:=.pointer (some ⟨yd.a,0,none⟩)) (x_move (.tmp rfl hρ209)) ?_
 refine st (v:=.pointer (some ⟨yd.a,0,none⟩)) (x_nilCheck (.tmp rfl rfl)) ?_
 refine st (v:=.pointer (some ⟨yd.a,0 + 0,none⟩)) (fa67_0 (.tmp rfl rfl)) ?_
 refine st (v:=.int .i64 ((yd.n:Nat):Int)) (ld3 (.tmp rfl rfl) (hs214.cell 1 rfl (0 + 0) rfl)) ?_
 refine st (v:=.bool (decide ((((i5:Nat):Int):Int) < ((yd.n:Nat):Int)))) (x_lss (k:=.i64) (a:=((i5:Nat):Int)) (b:=((yd.n:Nat):Int)) (.tmp rfl rfl) (.tmp rfl rfl)) ?_
 refine c_nil (n_then ?_)
 rcases Bool.eq_false_or_eq_true (decide ((((i5:Nat):Int):Int) < ((yd.n:Nat):Int))) with hc215 | hc215
 have hp215:(((i5:Nat):Int):Int) < ((yd.n:Nat):Int):=of_decide_eq_true hc215
 refine c_cond_t (t:=true) (.tmp rfl (cVb hc215)) rfl ?_
 refine c_skip (n_then (c_seq (c_block (c_seq (t_region (L:=obj g52 39 (clView cv)::obj yd.a 67 [.int .i64 ((yd.n:Nat):Int),.slice yd.A yd.ln yd.lc,yd.bv,yd.vv]::row 53 16 yd.bv yd.bag.length yd.bc::row 63 1 yd.vv yd.vs.length yd.vc::memsR 78 81 37 yd.ms ++ (vrsR 39 yd.vs ++ (L))) (L':=obj g52 39 (clView cv)::obj yd.a 67 [.int .i64 ((yd.n:Nat):Int),.slice yd.A yd.ln yd.lc,yd.bv,yd.vv]::row 53 16 yd.bv yd.bag.length yd.bc::row 63 1 yd.vv yd.vs.length yd.vc::L) (Z:=[]) (F:=[]) (pl:=(.q 0 (.q 1 (.q 2 (.q 3 (.q 4 (.q 5 (.q 6 (.q 8 (.e 7 (.q 9 (.q 10 (.q 11 (.q 12 (.q 13 (.q 14 (.q 15 (.q 16 (.q 17 (.q 18 (.q 19 (.q 20 (.q 21 (.q 22 (.q 23 (.e 24 (.q 25 (.q 26 .done)))))))))))))))))))))))))))) mixed hs214 (fun u hu => (St.dropL [obj g52 39 (clView cv),obj yd.a 67 [.int .i64 ((yd.n:Nat):Int),.slice yd.A yd.ln yd.lc,yd.bv,yd.vv],row 53 16 yd.bv yd.bag.length yd.bc,row 63 1 yd.vv yd.vs.length yd.vc] (St.dropL [obj g52 39 (clView cv),obj yd.a 67 [.int .i64 ((yd.n:Nat):Int),.slice yd.A yd.ln yd.lc,yd.bv,yd.vv],row 53 16 yd.bv yd.bag.length yd.bc,row 63 1 yd.vv yd.vs.length yd.vc] hu))) (by kernel_rfl) ?_)))))
 intro w216 hs217
 refine t_st (k:=0) (v:=.pointer (some ⟨yd.a,0,none⟩)) rfl rfl (fun w hs => (x_move (.tmp rfl hρ209))) ?_
 refine t_st (k:=1) (v:=.pointer (some ⟨yd.a,0,none⟩)) rfl rfl (fun w hs => (x_nilCheck (.tmp rfl rfl))) ?_
 refine t_st (k:=2) (v:=.pointer (some ⟨yd.a,0 + 1,none⟩)) rfl rfl (fun w hs => (fa67_1 (.tmp rfl rfl))) ?_
 refine t_st (k:=3) (v:=.slice yd.A yd.ln yd.lc) rfl rfl (fun w hs => (ld64 (.tmp rfl rfl) (hs.cell 1 rfl (0 + 1) rfl))) ?_
 refine t_st (k:=4) (v:=.int .i64 ((i5:Nat):Int)) rfl rfl (fun w hs => (x_move (.tmp rfl hρ213))) ?_
 obtain ⟨e218,b219,o220,cs221,hx222,hA223,hr224,hat225⟩:=okd.l.get (i:=i5) (by omega)
 obtain ⟨rfl⟩:=hr224
 have hat225x:∀ {w:World} {L:List Res},St H114 w L → At w ⟨b219,o220 + i5 * 1,none⟩ [.pointer (some ⟨e218,0,none⟩)]:=fun h => hat225 h
 obtain ⟨mm226,hm227,hg228⟩:=ptr_at hx222
 refine t_st (k:=5) (v:=.pointer (some ⟨b219,(o220 + i5 * 1),none⟩)) rfl rfl (fun w hs => (ixo64 (.tmp rfl rfl) hA223 (i:=((i5:Nat):Int)) (.tmp rfl rfl) (by omega) (by omega) (by omega))) ?_
 refine t_st (k:=6) (v:=.pointer (some ⟨e218,0,none⟩)) rfl rfl (fun w hs => (ld23 (.tmp rfl rfl) ((hat225x hs).cell 0 rfl))) ?_
 refine t_st (k:=8) (v:=.agg #[.int .u64 ((cv.ID.N:Nat):Int),.int .i64 cv.ID.P,.int .u16 ((cv.Set:Nat):Int)]) rfl rfl (fun w hs => (ld39 (cs:=[.int .u64 ((cv.ID.N:Nat):Int),.int .i64 cv.ID.P,.int .u16 ((cv.Set:Nat):Int)]) (.tmp rfl hρ211) (hs.at_ 0 rfl (0) rfl) rfl)) ?_
 refine t_eff (k:=7) rfl ?_
 have hs229:St H114 _ (MM.res 78 81 37 mm226 ++ (obj g52 39 (clView cv)::obj yd.a 67 [.int .i64 ((yd.n:Nat):Int),.slice yd.A yd.ln yd.lc,yd.bv,yd.vv]::row 53 16 yd.bv yd.bag.length yd.bc::row 63 1 yd.vv yd.vs.length yd.vc::memsR 78 81 37 (yd.ms.eraseIdx i5) ++ (vrsR 39 yd.vs ++ (L)))):=St.mmOut [obj g52 39 (clView cv),obj yd.a 67 [.int .i64 ((yd.n:Nat):Int),.slice yd.A yd.ln yd.lc,yd.bv,yd.vv],row 53 16 yd.bv yd.bag.length yd.bc,row 63 1 yd.vv yd.vs.length yd.vc] hs217 hm227
 refine st_c cb14 .func (evs1 (.tmp rfl (congrArg (fun z => Value.pointer (some ⟨z,0,none⟩)) hg228.symm))) (cur_mm hs229 (x:=mm226) (MsOk.get okd.mok hm227) ) ?_
 rintro e w230 ⟨cs232,rfl,hr233,hs231⟩
 obtain ⟨rfl,b234,⟨b235,b236⟩,b237⟩:=hr233
 refine ⟨_,rfl,?_⟩
 have hs238:St H114 _ (obj g52 39 (clView cv)::obj yd.a 67 [.int .i64 ((yd.n:Nat):Int),.slice yd.A yd.ln yd.lc,yd.bv,yd.vv]::row 53 16 yd.bv yd.bag.length yd.bc::row 63 1 yd.vv yd.vs.length yd.vc::memsR 78 81 37 yd.ms ++ (vrsR 39 yd.vs ++ (L))):=St.mmBack [obj g52 39 (clView cv),obj yd.a 67 [.int .i64 ((yd.n:Nat):Int),.slice yd.A yd.ln yd.lc,yd.bv,yd.vv],row 53 16 yd.bv yd.bag.length yd.bc,row 63 1 yd.vv yd.vs.length yd.vc] hs231 hm227
 refine t_on (S':=fun u => St H114 u (obj g52 39 (clView cv)::obj yd.a 67 [.int .i64 ((yd.n:Nat):Int),.slice yd.A yd.ln yd.lc,yd.bv,yd.vv]::row 53 16 yd.bv yd.bag.length yd.bc::row 63 1 yd.vv yd.vs.length yd.vc::L)) (fun u hu => hu) (St.dropL [obj g52 39 (clView cv),obj yd.a 67 [.int .i64 ((yd.n:Nat):Int),.slice yd.A yd.ln yd.lc,yd.bv,yd.vv],row 53 16 yd.bv yd.bag.length yd.bc,row 63 1 yd.vv yd.vs.length yd.vc] (St.dropL [obj g52 39 (clView cv),obj yd.a 67 [.int .i64 ((yd.n:Nat):Int),.slice yd.A yd.ln yd.lc,yd.bv,yd.vv],row 53 16 yd.bv yd.bag.length yd.bc,row 63 1 yd.vv yd.vs.length yd.vc] hs238)) ?_
 refine t_st (k:=9) (v:=.bool (!(((((mm226.m.cur.ID.N:Nat):Int) == ((cv.ID.N:Nat):Int)) && ((mm226.m.cur.ID.P == cv.ID.P) && true)) && ((((mm226.m.cur.Set:Nat):Int) == ((cv.Set:Nat):Int)) && true)))) rfl rfl (fun w hs => (x_neqA eqg39 (.tmp rfl rfl) (.tmp rfl rfl) (fun d => eqs39 (d + 97) _ ((mm226.m.cur.ID.N:Nat):Int) ((cv.ID.N:Nat):Int) mm226.m.cur.ID.P cv.ID.P ((mm226.m.cur.Set:Nat):Int) ((cv.Set:Nat):Int)))) ?_
 refine t_st (k:=10) (v:=.bool (!(decide (mm226.m.cur = cv)))) rfl rfl (fun w hs => (x_move (.tmp rfl (congrArg (fun z => Value.bool (!z)) (GView.beq_dec mm226.m.cur cv))))) ?_
 have hc239:(decide (mm226.m.cur = cv)) = true:=(decide_eq_true (by have h9:=(hA2.all (by omega) (show i5 < yd.n by omega)).1; rw [gok_m hm227] at h9; rw [h9,hcv]))
 have hp239:mm226.m.cur = cv:=of_decide_eq_true hc239
 refine t_yes (k:=11) (v:=.pointer (some ⟨g52,0 + 2,none⟩)) rfl rfl (yl (dj:=118) (b:=false) rfl rfl (cVb (by rw [hc239]; rfl))) (fun w hs => (fa39_1 (.tmp rfl hρ211))) ?_
 refine t_yes (k:=12) (v:=.int .u16 ((cv.Set:Nat):Int)) rfl rfl (yl (dj:=118) (b:=false) rfl rfl (cVb (by rw [hc239]; rfl))) (fun w hs => (ld31 (.tmp rfl rfl) (hs.cell 0 rfl (0 + 2) rfl))) ?_
 refine t_yes (k:=13) (v:=.int .u16 (((2 ^ y.n - 1):Nat):Int)) rfl rfl (yl (dj:=118) (b:=false) rfl rfl (cVb (by rw [hc239]; rfl))) (fun w hs => (x_move (.tmp rfl hρ210))) ?_
 refine t_yes (k:=14) (v:=.bool (decide ((((cv.Set:Nat):Int):Int) ≠ (((2 ^ y.n - 1):Nat):Int)))) rfl rfl (yl (dj:=118) (b:=false) rfl rfl (cVb (by rw [hc239]; rfl))) (fun w hs => (x_neq (k:=.u16) (a:=((cv.Set:Nat):Int)) (b:=(((2 ^ y.n - 1):Nat):Int)) (.tmp rfl rfl) (.tmp rfl rfl))) ?_
 refine t_st (k:=15) (v:=.bool (decide ((((cv.Set:Nat):Int):Int) ≠ (((2 ^ y.n - 1):Nat):Int)))) rfl rfl (fun w hs => (x_pick_f (.tmp rfl (cVb (by rw [hc239]; rfl))) (.tmp rfl rfl))) ?_
 refine t_st (k:=16) (v:=.bool (decide ((((cv.Set:Nat):Int):Int) ≠ (((2 ^ y.n - 1):Nat):Int)))) rfl rfl (fun w hs => (x_move (.tmp rfl rfl))) ?_
 have hc240:(decide ((((cv.Set:Nat):Int):Int) ≠ (((2 ^ y.n - 1):Nat):Int))) = false:=(decide_eq_false (fun hne => hne (by rw [hset])))
 have hp240:¬ ((((cv.Set:Nat):Int):Int) ≠ (((2 ^ y.n - 1):Nat):Int)):=of_decide_eq_false hc240
 refine t_yes (k:=17) (v:=.pointer (some ⟨yd.a,0,none⟩)) rfl rfl (yk 124 false rfl rfl hc240) (fun w hs => (x_move (.tmp rfl hρ209))) ?_
 refine t_yes (k:=18) (v:=.pointer (some ⟨yd.a,0,none⟩)) rfl rfl (yk 124 false rfl rfl hc240) (fun w hs => (x_nilCheck (.tmp rfl rfl))) ?_
 refine t_yes (k:=19) (v:=.pointer (some ⟨yd.a,0 + 1,none⟩)) rfl rfl (yk 124 false rfl rfl hc240) (fun w hs => (fa67_1 (.tmp rfl rfl))) ?_
 refine t_yes (k:=20) (v:=.slice yd.A yd.ln yd.lc) rfl rfl (yk 124 false rfl rfl hc240) (fun w hs => (ld64 (.tmp rfl rfl) (hs.cell 1 rfl (0 + 1) rfl))) ?_
 refine t_yes (k:=21) (v:=.int .i64 ((i5:Nat):Int)) rfl rfl (yk 124 false rfl rfl hc240) (fun w hs => (x_move (.tmp rfl hρ213))) ?_
 refine t_yes (k:=22) (v:=.pointer (some ⟨b219,(o220 + i5 * 1),none⟩)) rfl rfl (yk 124 false rfl rfl hc240) (fun w hs => (ixo64 (.tmp rfl rfl) hA223 (i:=((i5:Nat):Int)) (.tmp rfl rfl) (by omega) (by omega) (by omega))) ?_
 refine t_yes (k:=23) (v:=.pointer (some ⟨e218,0,none⟩)) rfl rfl (yk 124 false rfl rfl hc240) (fun w hs => (ld23 (.tmp rfl rfl) ((hat225x hs).cell 0 rfl))) ?_
 refine t_eff (k:=24) rfl ?_
 refine g_yes (yk 124 false rfl rfl hc240) ?_
 have hs241:St H114 _ (MM.res 78 81 37 mm226 ++ (obj g52 39 (clView cv)::obj yd.a 67 [.int .i64 ((yd.n:Nat):Int),.slice yd.A yd.ln yd.lc,yd.bv,yd.vv]::row 53 16 yd.bv yd.bag.length yd.bc::row 63 1 yd.vv yd.vs.length yd.vc::memsR 78 81 37 (yd.ms.eraseIdx i5) ++ (vrsR 39 yd.vs ++ (L)))):=St.mmOut [obj g52 39 (clView cv),obj yd.a 67 [.int .i64 ((yd.n:Nat):Int),.slice yd.A yd.ln yd.lc,yd.bv,yd.vv],row 53 16 yd.bv yd.bag.length yd.bc,row 63 1 yd.vv yd.vs.length yd.vc] hs238 hm227
 refine st_c cb15 .func (evs1 (.tmp rfl (congrArg (fun z => Value.pointer (some ⟨z,0,none⟩)) hg228.symm))) (opn_mm hs241 (x:=mm226) (MsOk.get okd.mok hm227) ) ?_
 rintro e w242 ⟨rfl,hs243⟩
 refine ⟨_,rfl,?_⟩
 have hs244:St H114 _ (obj g52 39 (clView cv)::obj yd.a 67 [.int .i64 ((yd.n:Nat):Int),.slice yd.A yd.ln yd.lc,yd.bv,yd.vv]::row 53 16 yd.bv yd.bag.length yd.bc::row 63 1 yd.vv yd.vs.length yd.vc::memsR 78 81 37 yd.ms ++ (vrsR 39 yd.vs ++ (L))):=St.mmBack [obj g52 39 (clView cv),obj yd.a 67 [.int .i64 ((yd.n:Nat):Int),.slice yd.A yd.ln yd.lc,yd.bv,yd.vv],row 53 16 yd.bv yd.bag.length yd.bc,row 63 1 yd.vv yd.vs.length yd.vc] hs243 hm227
 refine t_on (S':=fun u => St H114 u (obj g52 39 (clView cv)::obj yd.a 67 [.int .i64 ((yd.n:Nat):Int),.slice yd.A yd.ln yd.lc,yd.bv,yd.vv]::row 53 16 yd.bv yd.bag.length yd.bc::row 63 1 yd.vv yd.vs.length yd.vc::L)) (fun u hu => hu) (St.dropL [obj g52 39 (clView cv),obj yd.a 67 [.int .i64 ((yd.n:Nat):Int),.slice yd.A yd.ln yd.lc,yd.bv,yd.vv],row 53 16 yd.bv yd.bag.length yd.bc,row 63 1 yd.vv yd.vs.length yd.vc] (St.dropL [obj g52 39 (clView cv),obj yd.a 67 [.int .i64 ((yd.n:Nat):Int),.slice yd.A yd.ln yd.lc,yd.bv,yd.vv],row 53 16 yd.bv yd.bag.length yd.bc,row 63 1 yd.vv yd.vs.length yd.vc] hs244)) ?_
 refine t_yes (k:=25) (v:=.bool (!mm226.m.opn)) rfl rfl (yk 124 false rfl rfl hc240) (fun w hs => (x_not (.tmp rfl rfl))) ?_
 refine t_st (k:=26) (v:=.bool (!mm226.m.opn)) rfl rfl (fun w hs => (x_pick_f (.tmp rfl (cVb hc240)) (.tmp rfl rfl))) ?_
 refine t_nil ?_
 refine n_then ?_
 have hc245:mm226.m.opn = true:=(by have h9:=(hA2.all (by omega) (show i5 < yd.n by omega)).2.2; rw [gok_m hm227] at h9; exact h9)
 refine c_cond_f (t:=false) (.tmp rfl (cVb (by rw [hc245]; rfl))) rfl ?_
 refine c_skip (n_block (n_then (c_region (st (v:=.int .i64 ((i5:Nat):Int)) (x_move (.tmp rfl hρ213)) ?_))))
 refine st (v:=.int .i64 (((i5 + 1):Nat):Int)) (x_add (k:=.i64) (a:=((i5:Nat):Int)) (b:=1) (.tmp rfl rfl) .const ((w64 (by omega) (by omega)).trans (by omega))) ?_
 refine st (v:=.int .i64 (((i5 + 1):Nat):Int)) (x_assign (.tmp rfl rfl)) ?_
 refine c_nil ?_
 refine n_then ⟨_,_,rfl,?_,(i5 + 1),hρ209,hρ210,hρ211,hρ212,rfl,(by omega),((((hs244.p3).p3).p3).p3),rfl⟩
 omega
 have hp215:¬ ((((i5:Nat):Int):Int) < ((yd.n:Nat):Int)):=of_decide_eq_false hc215
 refine c_cond_f (t:=false) (.tmp rfl (cVb hc215)) rfl ?_
 refine c_exit (x_then (x_then (x_here (n_block (n_then (c_region (st (v:=.int .i64 ((k:Nat):Int)) (x_move (.tmp rfl hρ212)) ?_)))))))
 refine st (v:=.int .i64 (((k + 1):Nat):Int)) (x_add (k:=.i64) (a:=((k:Nat):Int)) (b:=1) (.tmp rfl rfl) .const ((w64 (by omega) (by omega)).trans (by omega))) ?_
 refine st (v:=.int .i64 (((k + 1):Nat):Int)) (x_assign (.tmp rfl rfl)) ?_
 refine c_nil ?_
 refine n_then ⟨_,_,rfl,?_,H114,(k + 1),yd,T2,cv,hρ209,hρ210,hρ211,rfl,(((hg57.trans hg65).trans hg90).trans hg115),(by omega),okd,hA2,hdn,(by omega),(fun _ => hcv),bcv,icv,scv,((((hs214.p3).p3).p3).p3),rfl⟩
 omega
 have hp63:¬ ((((k:Nat):Int):Int) < 8):=of_decide_eq_false hc63
 refine c_cond_f (t:=false) (.tmp rfl (cVb hc63)) rfl ?_
 refine c_exit (x_then (x_then (x_here (n_then (c_seq (c_region (st (v:=.bool true) (x_assign .const) ?_)))))))
 refine c_nil (n_then (c_ret (leave_ret (res_one (v:=.bool true) rfl (.mk rfl rfl)) ?_)))
 exact ⟨rfl,((St.dropL [] (St.dropL [] hs62.drop.drop.drop.drop)).weaken ((hle6.trans hg12).trans hg57))⟩
end Go.Proofs.YtcccaihjgoaehaaDoor
