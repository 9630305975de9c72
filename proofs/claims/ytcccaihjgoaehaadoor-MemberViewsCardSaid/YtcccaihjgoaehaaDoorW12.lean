/- Steps of the proofs over the functions of this seat, printed by a program (gen.py) and checked by Lean. -/
import Derived.Test.YtcccaihjgoaehaaDoorW01
import Derived.Test.YtcccaihjgoaehaaDoorW00
import Derived.Test.YtcccaihjgoaehaaDoorW03
import Derived.Test.YtcccaihjgoaehaaDoorW11
set_option linter.unusedVariables false
set_option linter.unusedSimpArgs false
namespace Go.Proofs.YtcccaihjgoaehaaDoor
open Go Go.FM Go.Proofs
attribute [local irreducible] wpList wpQuiet wpS Code.wp Calls
set_option maxHeartbeats 8000000 in
theorem views_law {H:Hp} {w:World} {L:List Res} (hs:St H w (L)) (z:Nat) (b_z:z < 256) {A_l:Option Addr} {n_l c_l:Nat} (l:(List GMove)) (h_l:Sl kMove H A_l n_l c_l l) (htab:Tab H):Calls Tryd.prog 5 #[.int .u8 ((z:Nat):Int),.slice A_l n_l c_l] w (fun e w' => e = .returned (.bool true)∧St H w' (L)):=by
 have:=h_l.len; have:=h_l.le; have:n_l * 6 ≤ 140737488351232:=h_l.bnd
 refine enter (args:=[.int .u8 ((z:Nat):Int),.slice A_l n_l c_l]) (N:=133) Tryd.func5 rfl rfl rfl ?_
 refine c_seq (c_region (st (v:=.bool false) (x_assign .const) ?_))
 refine c_nil (n_then (c_seq (c_seq (c_region (st_c cb10 .func (evs0 ) (awake_spec hs  htab) ?_)))))
 rintro e w1 ⟨rfl,hs2⟩
 refine ⟨_,rfl,?_⟩
 refine st (v:=.bool false) (x_not (b:=true) (.tmp rfl rfl)) ?_
 refine c_nil (n_then (c_cond_f (t:=false) (.tmp rfl rfl) rfl ?_))
 refine c_skip (n_then (c_seq (c_region (st (v:=.int .u8 ((z:Nat):Int)) (x_move (.tmp rfl rfl)) ?_))))
 refine st (v:=.int .i64 ((z:Nat):Int)) (x_conv (k:=.u8) (a:=((z:Nat):Int)) Tryd.underlying5 Tryd.underlying3 (.tmp rfl rfl) (w64 (by omega) (by omega))) ?_
 refine st (v:=.int .i64 (((z % 6):Nat):Int)) (x_remN (k:=.i64) (m:=z) (n:=6) (.tmp rfl rfl) .const (by omega)) ?_
 refine st (v:=.int .i64 (((1 + (z % 6)):Nat):Int)) (x_add (k:=.i64) (a:=1) (b:=(((z % 6):Nat):Int)) .const (.tmp rfl rfl) ((w64 (by omega) (by omega)).trans (by omega))) ?_
 refine st_c cb20 .func (evs1 (.tmp rfl rfl)) (begin_spec hs2 (1 + (z % 6)) (by omega) (by omega)) ?_
 rintro e w3 ⟨H5,gr7,hle6,rfl,okg8,hgg9,hs4⟩
 refine ⟨_,rfl,?_⟩
 have hs10:St H5 _ (obj gr7.a 67 [.int .i64 ((gr7.n:Nat):Int),.slice gr7.A gr7.ln gr7.lc,gr7.bv,gr7.vv]::row 53 16 gr7.bv gr7.bag.length gr7.bc::row 63 1 gr7.vv gr7.vs.length gr7.vc::memsR 78 81 37 gr7.ms ++ (vrsR 39 gr7.vs ++ (L))):=St.grpOpen [] hs4
 refine st (v:=.pointer (some ⟨gr7.a,0,none⟩)) (x_assign (.tmp rfl rfl)) ?_
 refine c_nil (n_then (c_seq (c_seq (c_region (st (v:=.pointer (some ⟨gr7.a,0,none⟩)) (x_move (.tmp rfl rfl)) ?_)))))
 refine st (v:=.bool false) (x_eqlP Tryd.underlying58 (.tmp rfl rfl) .const rfl) ?_
 refine c_nil (n_then (c_cond_f (t:=false) (.tmp rfl rfl) rfl ?_))
 refine c_skip (n_then (c_seq (c_seq (c_region (st (v:=.int .i64 0) (x_assign .const) ?_)))))
 refine c_nil (n_then (c_block ?_))
 have hn0:gr7.n = (1 + z % 6):=congrArg GG.n hgg9
 refine c_loop (fun ρ w mm => ∃ (H11:Hp) (i:Nat) (y:GR),ρ 1 = .slice A_l n_l c_l∧ρ 5 = .pointer (some ⟨y.a,0,none⟩)∧ρ 6 = .int .i64 ((i:Nat):Int)∧(H5.le H11)∧(i ≤ 200)∧(i ≤ l.length)∧(GR.ok y H11)∧(RunOk i y.g)∧(y.n = (1 + z % 6))∧St H11 w (obj y.a 67 [.int .i64 ((y.n:Nat):Int),.slice y.A y.ln y.lc,y.bv,y.vv]::row 53 16 y.bv y.bag.length y.bc::row 63 1 y.vv y.vs.length y.vc::memsR 78 81 37 y.ms ++ (vrsR 39 y.vs ++ (L)))∧mm = 200 - i) _ ⟨H5,0,gr7,rfl,rfl,rfl,(Hp.le.refl _),(by omega),(by omega),okg8,(by rw [hgg9]; exact RunOk.start (by omega) (by omega)),hn0,(((hs10.p2).p2).p2),rfl⟩ ?_
 rintro ρ w mm ⟨H11,i,y,hρ13,hρ14,hρ15,hg12,hi,hil,oky,hy,hyn,hs16,rfl⟩
 refine c_seq (c_seq (c_region (st (v:=.int .i64 ((i:Nat):Int)) (x_move (.tmp rfl hρ15)) ?_)))
 refine st (v:=.slice A_l n_l c_l) (x_move (.tmp rfl hρ13)) ?_
 refine st (v:=.int .i64 ((n_l:Nat):Int)) (x_len (n:=n_l) Tryd.underlying57 (.tmp rfl rfl)) ?_
 refine st (v:=.bool (decide ((((i:Nat):Int):Int) < ((n_l:Nat):Int)))) (x_lss (k:=.i64) (a:=((i:Nat):Int)) (b:=((n_l:Nat):Int)) (.tmp rfl rfl) (.tmp rfl rfl)) ?_
 refine st (v:=.bool (decide ((((i:Nat):Int):Int) < ((n_l:Nat):Int)))) (x_move (.tmp rfl rfl)) ?_
 refine jw 3 (fun ρ w => ρ 29 = .bool ((decide ((((i:Nat):Int):Int) < ((n_l:Nat):Int))) && (decide ((((i:Nat):Int):Int) < 200)))∧ρ 1 = .slice A_l n_l c_l∧ρ 5 = .pointer (some ⟨y.a,0,none⟩)∧ρ 6 = .int .i64 ((i:Nat):Int)∧St H11 w (obj y.a 67 [.int .i64 ((y.n:Nat):Int),.slice y.A y.ln y.lc,y.bv,y.vv]::row 53 16 y.bv y.bag.length y.bc::row 63 1 y.vv y.vs.length y.vc::memsR 78 81 37 y.ms ++ (vrsR 39 y.vs ++ (L)))) ?_ ?_
 rcases Bool.eq_false_or_eq_true (decide ((((i:Nat):Int):Int) < ((n_l:Nat):Int))) with hc17 | hc17
 have hp17:(((i:Nat):Int):Int) < ((n_l:Nat):Int):=of_decide_eq_true hc17
 refine g_yes (yk 26 true rfl rfl hc17) ?_
 refine st (v:=.int .i64 ((i:Nat):Int)) (x_move (.tmp rfl hρ15)) ?_
 refine g_yes (yk 26 true rfl rfl hc17) ?_
 refine st (v:=.bool (decide ((((i:Nat):Int):Int) < 200))) (x_lss (k:=.i64) (a:=((i:Nat):Int)) (b:=200) (.tmp rfl rfl) .const) ?_
 refine st (v:=.bool (decide ((((i:Nat):Int):Int) < 200))) (x_pick_t (.tmp rfl (cVb hc17)) (.tmp rfl rfl)) ?_
 exact jw_end ⟨(cVb (jand_t hc17)),hρ13,hρ14,hρ15,hs16⟩
 have hp17:¬ ((((i:Nat):Int):Int) < ((n_l:Nat):Int)):=of_decide_eq_false hc17
 refine g_no (yk 26 false rfl rfl hc17) rfl ?_
 refine g_no (yk 26 false rfl rfl hc17) rfl ?_
 refine st (v:=.bool false) (x_pick_f (.tmp rfl (cVb hc17)) .const) ?_
 exact jw_end ⟨(cVb (jand_f hc17)),hρ13,hρ14,hρ15,hs16⟩
 rintro ρ w ⟨hρ18,hρ19,hρ20,hρ21,hs22⟩
 refine c_nil (n_then ?_)
 rcases Bool.eq_false_or_eq_true ((decide ((((i:Nat):Int):Int) < ((n_l:Nat):Int))) && (decide ((((i:Nat):Int):Int) < 200))) with hc23 | hc23
 have hp23:((((i:Nat):Int):Int) < ((n_l:Nat):Int))∧((((i:Nat):Int):Int) < 200):=((J_and decide_eq_true_iff decide_eq_true_iff)).1 hc23
 refine c_cond_t (t:=true) (.tmp rfl (hρ18.trans (cVb hc23))) rfl ?_
 refine c_skip (n_then (c_seq (c_block (c_region (st (v:=.pointer (some ⟨y.a,0,none⟩)) (x_move (.tmp rfl hρ20)) ?_)))))
 refine st (v:=.slice A_l n_l c_l) (x_move (.tmp rfl hρ19)) ?_
 refine st (v:=.int .i64 ((i:Nat):Int)) (x_move (.tmp rfl hρ21)) ?_
 obtain ⟨e24,b25,o26,cs27,hx28,hA29,hr30,hat31⟩:=((h_l.mono hle6).mono hg12).get (i:=i) (by omega)
 obtain ⟨rfl,b32,b33,b34⟩:=hr30
 have hat31x:∀ {w:World} {L:List Res},St H11 w L → At w ⟨b25,o26 + i * 4,none⟩ [.int .u8 ((e24.Kind:Nat):Int),.int .u8 ((e24.I:Nat):Int),.int .u16 ((e24.Est:Nat):Int),.bool e24.Keep]:=fun h => hat31 h
 refine st (v:=.pointer (some ⟨b25,(o26 + i * 4),none⟩)) (ixo57 (.tmp rfl rfl) hA29 (i:=((i:Nat):Int)) (.tmp rfl rfl) (by omega) (by omega) (by omega)) ?_
 refine st (v:=.agg #[.int .u8 ((e24.Kind:Nat):Int),.int .u8 ((e24.I:Nat):Int),.int .u16 ((e24.Est:Nat):Int),.bool e24.Keep]) (ld62 (cs:=[.int .u8 ((e24.Kind:Nat):Int),.int .u8 ((e24.I:Nat):Int),.int .u16 ((e24.Est:Nat):Int),.bool e24.Keep]) (.tmp rfl rfl) ((hat31x hs22).sub 0 rfl) rfl) ?_
 have hs35:=hs22.p2
 have hs36:=hs35.p2
 have hs37:=hs36.p2
 have okg39:GR.ok y H11:=⟨oky.mok,oky.l,oky.bok,oky.bhk,oky.vok,oky.vhk⟩
 have hs38:St H11 _ (GR.res 67 53 63 39 78 81 37 y ++ (L)):=St.grpShut (x:=y) [] hs37
 have hr40:kMove.rep H11 e24 [.int .u8 ((e24.Kind:Nat):Int),.int .u8 ((e24.I:Nat):Int),.int .u16 ((e24.Est:Nat):Int),.bool e24.Keep]:=⟨rfl,b32,b33,b34⟩
 refine st_c cb21 .func (evs2 (.tmp rfl rfl) (.tmp rfl rfl)) (move_spec hs38 (x:=y) okg39 e24 hr40 (hy.ok (by omega)) (by have h9:y.bag.length ≤ 14400:=hy.bagl (by omega); omega) (htab.mono (hle6.trans hg12))) ?_
 rintro e w41 ⟨H43,gr45,hle44,rfl,okg46,hga47,hgn48,hgg49,hs42⟩
 refine ⟨_,rfl,?_⟩
 have hs50:St H43 _ (obj gr45.a 67 [.int .i64 ((gr45.n:Nat):Int),.slice gr45.A gr45.ln gr45.lc,gr45.bv,gr45.vv]::row 53 16 gr45.bv gr45.bag.length gr45.bc::row 63 1 gr45.vv gr45.vs.length gr45.vc::memsR 78 81 37 gr45.ms ++ (vrsR 39 gr45.vs ++ (L))):=St.grpOpen [] hs42
 refine c_nil (n_block (n_then (c_region (st (v:=.int .i64 ((i:Nat):Int)) (x_move (.tmp rfl hρ21)) ?_))))
 refine st (v:=.int .i64 (((i + 1):Nat):Int)) (x_add (k:=.i64) (a:=((i:Nat):Int)) (b:=1) (.tmp rfl rfl) .const ((w64 (by omega) (by omega)).trans (by omega))) ?_
 refine st (v:=.int .i64 (((i + 1):Nat):Int)) (x_assign (.tmp rfl rfl)) ?_
 refine c_nil ?_
 have hyn2:gr45.n = (1 + z % 6):=hgn48.trans hyn
 refine n_then ⟨_,_,rfl,?_,H43,(i + 1),gr45,hρ19,(hρ20.trans (congrArg (fun z => Value.pointer (some ⟨z,0,none⟩)) hga47.symm)),rfl,(hg12.trans hle44),(by omega),(by omega),okg46,(by rw [hgg49]; exact hy.move (by omega) _),hyn2,(((hs50.p2).p2).p2),rfl⟩
 omega
 have hp23:¬ (((((i:Nat):Int):Int) < ((n_l:Nat):Int))∧((((i:Nat):Int):Int) < 200)):=J_no (J_and decide_eq_true_iff decide_eq_true_iff) hc23
 refine c_cond_f (t:=false) (.tmp rfl (hρ18.trans (cVb hc23))) rfl ?_
 refine c_exit (x_then (x_then (x_here (n_then (c_seq (c_region ?_))))))
 obtain ⟨log,hI,_⟩:=hy
 have hny:y.vs.length = y.n:=gok_vs (RunOk.ok ⟨log,hI,‹_›⟩ (by omega))
 have hpl2:=oky.l.len
 have hmy:y.ms.length = y.n:=gok_ms (RunOk.ok ⟨log,hI,‹_›⟩ (by omega))
 have hpl:(ptrs y.ms).length = y.n:=by unfold ptrs; rw [List.length_map]; exact hmy
 refine st (v:=.slice none 0 0) (x_assign .const) ?_
 refine c_nil (n_then (c_seq (c_seq (c_region (st (v:=.int .i64 0) (x_assign .const) ?_)))))
 refine c_nil (n_then (c_block ?_))
 have hs52:=hs22.krowNil 39 kView
 have:([]:List GView).length = 0:=rfl
 refine c_loop (fun ρ w mm => ∃ (p:Nat) (seen:List GView) (v_seen:Value) (c_seen:List Value),ρ 5 = .pointer (some ⟨y.a,0,none⟩)∧ρ 7 = v_seen∧ρ 8 = .int .i64 ((p:Nat):Int)∧(RowOk kView.sz v_seen seen.length c_seen)∧(kView.toKn.rows H11 seen c_seen)∧(p ≤ y.n)∧(∀ v ∈ seen,v ∈ log)∧(seen.length ≤ p * 1000)∧St H11 w (row 39 3 v_seen seen.length c_seen::obj y.a 67 [.int .i64 ((y.n:Nat):Int),.slice y.A y.ln y.lc,y.bv,y.vv]::row 53 16 y.bv y.bag.length y.bc::row 63 1 y.vv y.vs.length y.vc::memsR 78 81 37 y.ms ++ (vrsR 39 y.vs ++ (L)))∧mm = y.n - p) _ ⟨0,([]:List GView),(.slice none 0 0),[],hρ20,rfl,rfl,(RowOk.knil kView),(Kn.rows_nil _ _),(by omega),(fun v hv => absurd hv (by simp)),(by simp),((((hs52.p3).p3).p3).p3),rfl⟩ ?_
 rintro ρ w mm ⟨p,seen,v_seen,c_seen,hρ54,hρ55,hρ56,ok_seen,hk_seen,hp,hsn,hsl,hs57,rfl⟩
 refine c_seq (c_seq (c_region (st (v:=.int .i64 ((p:Nat):Int)) (x_move (.tmp rfl hρ56)) ?_)))
 refine st (v:=.pointer (some ⟨y.a,0,none⟩)) (x_move (.tmp rfl hρ54)) ?_
 refine st (v:=.pointer (some ⟨y.a,0,none⟩)) (x_nilCheck (.tmp rfl rfl)) ?_
 refine st (v:=.pointer (some ⟨y.a,0 + 0,none⟩)) (fa67_0 (.tmp rfl rfl)) ?_
 refine st (v:=.int .i64 ((y.n:Nat):Int)) (ld3 (.tmp rfl rfl) (hs57.cell 1 rfl (0 + 0) rfl)) ?_
 refine st (v:=.bool (decide ((((p:Nat):Int):Int) < ((y.n:Nat):Int)))) (x_lss (k:=.i64) (a:=((p:Nat):Int)) (b:=((y.n:Nat):Int)) (.tmp rfl rfl) (.tmp rfl rfl)) ?_
 refine c_nil (n_then ?_)
 rcases Bool.eq_false_or_eq_true (decide ((((p:Nat):Int):Int) < ((y.n:Nat):Int))) with hc58 | hc58
 have hp58:(((p:Nat):Int):Int) < ((y.n:Nat):Int):=of_decide_eq_true hc58
 refine c_cond_t (t:=true) (.tmp rfl (cVb hc58)) rfl ?_
 refine c_skip (n_then (c_seq (c_block (c_seq (c_region (st (v:=.agg #[.int .u64 0,.int .i64 0]) (bl34 (ps:=[]) Evp.nil rfl) ?_))))))
 refine st_m (al34 (cs:=[.int .u64 0,.int .i64 0]) hs57 rfl) ?_
 rintro _ w60 ⟨g59,rfl,hs62⟩
 refine st_m0 (sto34 (cs':=[.int .u64 0,.int .i64 0]) (i:=0) hs62 (v:=.agg #[.int .u64 0,.int .i64 0]) (.tmp rfl rfl) (.tmp rfl rfl) rfl (Nat.le_of_ble_eq_true rfl) (oneA rfl) rfl) ?_
 rintro w63 hs65
 refine c_nil (n_then (c_seq (c_seq (c_region (st (v:=.int .i64 0) (x_assign .const) ?_)))))
 refine c_nil (n_then (c_block ?_))
 obtain ⟨e66,cs67,hx68,hr69,hsub70⟩:=Kn.rows_get (i:=p) oky.vhk (by omega)
 obtain ⟨rfl,ok71,hk72⟩:=hr69
 have hvo:=inv_views hI hx68 (by omega)
 have hvl1:e66.xs.length ≤ 1000:=by have h1:=hI.vl p; rw [show y.g.views.getD p [] = e66.xs from vxs_get hx68] at h1; omega
 refine c_loop (fun ρ w mm => ∃ (k:Nat) (sn:List GView) (v_sn:Value) (c_sn:List Value) (la:GViewID),ρ 5 = .pointer (some ⟨y.a,0,none⟩)∧ρ 7 = v_sn∧ρ 8 = .int .i64 ((p:Nat):Int)∧ρ 9 = .pointer (some ⟨g59,0,none⟩)∧ρ 10 = .int .i64 ((k:Nat):Int)∧(RowOk kView.sz v_sn sn.length c_sn)∧(kView.toKn.rows H11 sn c_sn)∧(k ≤ e66.xs.length)∧(la = prevId e66.xs k)∧(la.N < 18446744073709551616)∧(IB la.P)∧(∀ v ∈ sn,v ∈ log)∧(sn.length ≤ p * 1000 + k)∧St H11 w (row 39 3 v_sn sn.length c_sn::obj g59 34 (clViewID la)::obj y.a 67 [.int .i64 ((y.n:Nat):Int),.slice y.A y.ln y.lc,y.bv,y.vv]::row 53 16 y.bv y.bag.length y.bc::row 63 1 y.vv y.vs.length y.vc::memsR 78 81 37 y.ms ++ (vrsR 39 y.vs ++ (L)))∧mm = e66.xs.length - k) _ ⟨0,seen,v_seen,c_seen,(GViewID.mk 0 0),hρ54,hρ55,hρ56,rfl,rfl,ok_seen,hk_seen,(by omega),rfl,(show 0 < 18446744073709551616 by omega),(show IB 0 from ⟨by omega,by omega⟩),hsn,(Nat.le_trans hsl (Nat.le_add_right _ _)),(((((hs65.p4).p4).p4).p3).p4),rfl⟩ ?_
 rintro ρ w mm ⟨k,sn,v_sn,c_sn,la,hρ74,hρ75,hρ76,hρ77,hρ78,ok_sn,hk_sn,hk,hla,bla,ila,hsn2,hsl2,hs79,rfl⟩
 refine c_seq (c_seq (c_region (st (v:=.int .i64 ((k:Nat):Int)) (x_move (.tmp rfl hρ78)) ?_)))
 refine st (v:=.pointer (some ⟨y.a,0,none⟩)) (x_move (.tmp rfl hρ74)) ?_
 refine st (v:=.pointer (some ⟨y.a,0,none⟩)) (x_nilCheck (.tmp rfl rfl)) ?_
 refine st (v:=.pointer (some ⟨y.a,0 + 3,none⟩)) (fa67_3 (.tmp rfl rfl)) ?_
 refine st (v:=y.vv) (ld65 (.tmp rfl rfl) (hs79.cell 2 rfl (0 + 3) rfl)) ?_
 refine st (v:=.int .i64 ((p:Nat):Int)) (x_move (.tmp rfl hρ76)) ?_
 obtain ⟨g80,c81,hv82⟩:=oky.vok.pos (by omega)
 refine st (v:=.pointer (some ⟨g80,(p * 1),none⟩)) (ixo65 (.tmp rfl hv82) rfl (i:=((p:Nat):Int)) (.tmp rfl rfl) (by omega) (by omega) (by omega)) ?_
 refine st (v:=e66.v) (ld63 (.tmp rfl rfl) ((hs79.rowAt 4 rfl hv82 (p * 1) hsub70).cell 0 rfl)) ?_
 obtain ⟨A83,c84,hv85,hc86⟩:=ok71.slice
 refine st (v:=.int .i64 ((e66.xs.length:Nat):Int)) (x_len (n:=e66.xs.length) Tryd.underlying63 (.tmp rfl hv85)) ?_
 refine st (v:=.bool (decide ((((k:Nat):Int):Int) < ((e66.xs.length:Nat):Int)))) (x_lss (k:=.i64) (a:=((k:Nat):Int)) (b:=((e66.xs.length:Nat):Int)) (.tmp rfl rfl) (.tmp rfl rfl)) ?_
 refine c_nil (n_then ?_)
 rcases Bool.eq_false_or_eq_true (decide ((((k:Nat):Int):Int) < ((e66.xs.length:Nat):Int))) with hc87 | hc87
 have hp87:(((k:Nat):Int):Int) < ((e66.xs.length:Nat):Int):=of_decide_eq_true hc87
 refine c_cond_t (t:=true) (.tmp rfl (cVb hc87)) rfl ?_
 refine c_skip (n_then (c_seq (c_block (c_seq (c_region (st (v:=.pointer (some ⟨y.a,0,none⟩)) (x_move (.tmp rfl hρ74)) ?_))))))
 refine st (v:=.pointer (some ⟨y.a,0,none⟩)) (x_nilCheck (.tmp rfl rfl)) ?_
 refine st (v:=.pointer (some ⟨y.a,0 + 3,none⟩)) (fa67_3 (.tmp rfl rfl)) ?_
 refine st (v:=y.vv) (ld65 (.tmp rfl rfl) (hs79.cell 2 rfl (0 + 3) rfl)) ?_
 refine st (v:=.int .i64 ((p:Nat):Int)) (x_move (.tmp rfl hρ76)) ?_
 obtain ⟨g88,c89,hv90⟩:=oky.vok.pos (by omega)
 refine st (v:=.pointer (some ⟨g88,(p * 1),none⟩)) (ixo65 (.tmp rfl hv90) rfl (i:=((p:Nat):Int)) (.tmp rfl rfl) (by omega) (by omega) (by omega)) ?_
 refine st (v:=e66.v) (ld63 (.tmp rfl rfl) ((hs79.rowAt 4 rfl hv90 (p * 1) hsub70).cell 0 rfl)) ?_
 refine st (v:=.int .i64 ((k:Nat):Int)) (x_move (.tmp rfl hρ78)) ?_
 obtain ⟨g91,c92,hv93⟩:=ok71.pos (by omega)
 obtain ⟨e94,cs95,hx96,hr97,hsub98⟩:=Kn.rows_get (i:=k) hk72 (by omega)
 obtain ⟨rfl,b99,⟨b100,b101⟩,b102⟩:=hr97
 have hvm_e94:=hvo.mem e94 (List.mem_of_getElem? hx96)
 refine st (v:=.pointer (some ⟨g91,(k * 3),none⟩)) (ixo63 (.tmp rfl hv93) rfl (i:=((k:Nat):Int)) (.tmp rfl rfl) (by omega) (by omega) (by omega)) ?_
 refine st (v:=.agg #[.int .u64 ((e94.ID.N:Nat):Int),.int .i64 e94.ID.P,.int .u16 ((e94.Set:Nat):Int)]) (ld39 (cs:=[.int .u64 ((e94.ID.N:Nat):Int),.int .i64 e94.ID.P,.int .u16 ((e94.Set:Nat):Int)]) (.tmp rfl rfl) (((St.vrOut (TV:=39) [row 39 3 v_sn sn.length c_sn,obj g59 34 (clViewID la),obj y.a 67 [.int .i64 ((y.n:Nat):Int),.slice y.A y.ln y.lc,y.bv,y.vv],row 53 16 y.bv y.bag.length y.bc,row 63 1 y.vv y.vs.length y.vc] hs79 hx68).rowAt 0 rfl hv93 (k * 3) hsub98).sub 0 rfl) rfl) ?_
 refine st_m (al39 (cs:=[.int .u64 0,.int .i64 0,.int .u16 0]) hs79 rfl) ?_
 rintro _ w104 ⟨g103,rfl,hs106⟩
 refine st_m0 (sto39 (cs':=[.int .u64 ((e94.ID.N:Nat):Int),.int .i64 e94.ID.P,.int .u16 ((e94.Set:Nat):Int)]) (i:=0) hs106 (v:=.agg #[.int .u64 ((e94.ID.N:Nat):Int),.int .i64 e94.ID.P,.int .u16 ((e94.Set:Nat):Int)]) (.tmp rfl rfl) (.tmp rfl rfl) rfl (Nat.le_of_ble_eq_true rfl) (oneA rfl) rfl) ?_
 rintro w107 hs109
 refine c_nil (n_then (c_seq (c_seq (c_region (st (v:=.pointer (some ⟨g103,0 + 0,none⟩)) (fa39_0 (.tmp rfl rfl)) ?_)))))
 refine st (v:=.agg #[.int .u64 ((e94.ID.N:Nat):Int),.int .i64 e94.ID.P]) (ld34 (cs:=[.int .u64 ((e94.ID.N:Nat):Int),.int .i64 e94.ID.P]) (.tmp rfl rfl) (hs109.at_ 0 rfl (0 + 0) rfl) rfl) ?_
 refine st (v:=.agg #[.int .u64 ((la.N:Nat):Int),.int .i64 la.P]) (ld34 (cs:=[.int .u64 ((la.N:Nat):Int),.int .i64 la.P]) (.tmp rfl hρ77) (hs109.at_ 2 rfl (0) rfl) rfl) ?_
 refine st_c cb18 .func (evs2 (.tmp rfl rfl) (.tmp rfl rfl)) (rcompare_spec hs109 e94.ID.N e94.ID.P la.N la.P) ?_
 rintro e w110 ⟨rfl,hs111⟩
 refine ⟨_,rfl,?_⟩
 refine st (v:=.bool (decide (((cmpV e94.ID.N e94.ID.P la.N la.P):Int) ≤ 0))) (x_leq (k:=.i64) (a:=(cmpV e94.ID.N e94.ID.P la.N la.P)) (b:=0) (.tmp rfl rfl) .const) ?_
 refine st (v:=.bool (decide (((cmpV e94.ID.N e94.ID.P la.N la.P):Int) ≤ 0))) (x_move (.tmp rfl rfl)) ?_
 have hc112:(decide (((cmpV e94.ID.N e94.ID.P la.N la.P):Int) ≤ 0)) = false:=(decide_eq_false (by rw [hla]; exact views_up hvo (fun w hw => (hI.log.pos w hw).1) hx96))
 have hp112:¬ (((cmpV e94.ID.N e94.ID.P la.N la.P):Int) ≤ 0):=of_decide_eq_false hc112
 refine g_yes (yk 74 false rfl rfl hc112) ?_
 refine st (v:=.pointer (some ⟨g103,0 + 2,none⟩)) (fa39_1 (.tmp rfl rfl)) ?_
 refine g_yes (yk 74 false rfl rfl hc112) ?_
 refine st (v:=.int .u16 ((e94.Set:Nat):Int)) (ld31 (.tmp rfl rfl) (hs111.cell 0 rfl (0 + 2) rfl)) ?_
 refine g_yes (yk 74 false rfl rfl hc112) ?_
 refine st (v:=.int .i64 ((p:Nat):Int)) (x_move (.tmp rfl hρ76)) ?_
 refine g_yes (yk 74 false rfl rfl hc112) ?_
 refine st_c cb22 .func (evs2 (.tmp rfl rfl) (.tmp rfl rfl)) (rhas_spec hs111 e94.Set ((p:Nat):Int) b102 (by omega)) ?_
 rintro e w113 ⟨rfl,hs114⟩
 refine ⟨_,rfl,?_⟩
 refine g_yes (yk 74 false rfl rfl hc112) ?_
 refine st (v:=.bool (!(has e94.Set ((p:Nat):Int)))) (x_not (.tmp rfl rfl)) ?_
 refine st (v:=.bool (!(has e94.Set ((p:Nat):Int)))) (x_pick_f (.tmp rfl (cVb hc112)) (.tmp rfl rfl)) ?_
 refine c_nil (n_then ?_)
 have hc115:(has e94.Set ((p:Nat):Int)) = true:=hvm_e94.2
 refine c_cond_f (t:=false) (.tmp rfl (cVb (by rw [hc115]; rfl))) rfl ?_
 refine c_skip (n_then (c_seq (c_region (st (v:=.pointer (some ⟨g103,0 + 0,none⟩)) (fa39_0 (.tmp rfl rfl)) ?_))))
 refine st (v:=.agg #[.int .u64 ((e94.ID.N:Nat):Int),.int .i64 e94.ID.P]) (ld34 (cs:=[.int .u64 ((e94.ID.N:Nat):Int),.int .i64 e94.ID.P]) (.tmp rfl rfl) (hs114.at_ 0 rfl (0 + 0) rfl) rfl) ?_
 have hs116:=hs114.p2
 refine st_m0 (sto34 (cs':=[.int .u64 ((e94.ID.N:Nat):Int),.int .i64 e94.ID.P]) (i:=0) hs116 (v:=.agg #[.int .u64 ((e94.ID.N:Nat):Int),.int .i64 e94.ID.P]) (.tmp rfl hρ77) (.tmp rfl rfl) rfl (Nat.le_of_ble_eq_true rfl) (oneA rfl) rfl) ?_
 rintro w117 hs119
 refine c_nil (n_then (c_seq (c_seq (c_region (st (v:=.int .i64 0) (x_assign .const) ?_)))))
 refine c_nil (n_then (c_block (c_loop (fun ρ w mm => ∃ (m:Nat),ρ 5 = .pointer (some ⟨y.a,0,none⟩)∧ρ 7 = v_sn∧ρ 8 = .int .i64 ((p:Nat):Int)∧ρ 9 = .pointer (some ⟨g59,0,none⟩)∧ρ 10 = .int .i64 ((k:Nat):Int)∧ρ 11 = .pointer (some ⟨g103,0,none⟩)∧ρ 12 = .int .i64 ((m:Nat):Int)∧(m ≤ sn.length)∧St H11 w (row 39 3 v_sn sn.length c_sn::obj g59 34 (clViewID e94.ID)::obj g103 39 (clView e94)::obj y.a 67 [.int .i64 ((y.n:Nat):Int),.slice y.A y.ln y.lc,y.bv,y.vv]::row 53 16 y.bv y.bag.length y.bc::row 63 1 y.vv y.vs.length y.vc::memsR 78 81 37 y.ms ++ (vrsR 39 y.vs ++ (L)))∧mm = sn.length - m) _ ⟨0,hρ74,hρ75,hρ76,hρ77,hρ78,rfl,rfl,(by omega),((((((hs119.p5).p5).p5).p4).p4).p5),rfl⟩ ?_)))
 rintro ρ w mm ⟨m,hρ121,hρ122,hρ123,hρ124,hρ125,hρ126,hρ127,hm,hs128,rfl⟩
 refine c_seq (c_seq (c_region (st (v:=.int .i64 ((m:Nat):Int)) (x_move (.tmp rfl hρ127)) ?_)))
 refine st (v:=v_sn) (x_move (.tmp rfl hρ122)) ?_
 obtain ⟨A129,c130,hv131,hc132⟩:=ok_sn.slice
 refine st (v:=.int .i64 ((sn.length:Nat):Int)) (x_len (n:=sn.length) Tryd.underlying63 (.tmp rfl hv131)) ?_
 refine st (v:=.bool (decide ((((m:Nat):Int):Int) < ((sn.length:Nat):Int)))) (x_lss (k:=.i64) (a:=((m:Nat):Int)) (b:=((sn.length:Nat):Int)) (.tmp rfl rfl) (.tmp rfl rfl)) ?_
 refine c_nil (n_then ?_)
 rcases Bool.eq_false_or_eq_true (decide ((((m:Nat):Int):Int) < ((sn.length:Nat):Int))) with hc133 | hc133
 have hp133:(((m:Nat):Int):Int) < ((sn.length:Nat):Int):=of_decide_eq_true hc133
 refine c_cond_t (t:=true) (.tmp rfl (cVb hc133)) rfl ?_
 refine c_skip (n_then (c_seq (c_block (c_seq (q_region mixed hs128 (by kernel_rfl) ?_)))))
 refine q_st (v:=v_sn) (fun w hs => (x_move (.tmp rfl hρ122))) ?_
 refine q_st (v:=.int .i64 ((m:Nat):Int)) (fun w hs => (x_move (.tmp rfl hρ127))) ?_
 obtain ⟨g134,c135,hv136⟩:=ok_sn.pos (by omega)
 obtain ⟨e137,cs138,hx139,hr140,hsub141⟩:=Kn.rows_get (i:=m) hk_sn (by omega)
 obtain ⟨rfl,b142,⟨b143,b144⟩,b145⟩:=hr140
 refine q_st (v:=.pointer (some ⟨g134,(m * 3),none⟩)) (fun w hs => (ixo63 (.tmp rfl hv136) rfl (i:=((m:Nat):Int)) (.tmp rfl rfl) (by omega) (by omega) (by omega))) ?_
 refine q_st (v:=.pointer (some ⟨g134,(m * 3) + 0,none⟩)) (fun w hs => (fa39_0 (.tmp rfl rfl))) ?_
 refine q_st (v:=.agg #[.int .u64 ((e137.ID.N:Nat):Int),.int .i64 e137.ID.P]) (fun w hs => (ld34 (cs:=[.int .u64 ((e137.ID.N:Nat):Int),.int .i64 e137.ID.P]) (.tmp rfl rfl) ((hs.rowAt 0 rfl hv136 (m * 3) hsub141).sub 0 rfl) rfl)) ?_
 refine q_st (v:=.pointer (some ⟨g103,0 + 0,none⟩)) (fun w hs => (fa39_0 (.tmp rfl hρ126))) ?_
 refine q_st (v:=.agg #[.int .u64 ((e94.ID.N:Nat):Int),.int .i64 e94.ID.P]) (fun w hs => (ld34 (cs:=[.int .u64 ((e94.ID.N:Nat):Int),.int .i64 e94.ID.P]) (.tmp rfl rfl) (hs.at_ 2 rfl (0 + 0) rfl) rfl)) ?_
 refine q_st (v:=.bool ((((e137.ID.N:Nat):Int) == ((e94.ID.N:Nat):Int)) && ((e137.ID.P == e94.ID.P) && true))) (fun w hs => (x_eqlA eqg34 (.tmp rfl rfl) (.tmp rfl rfl) (fun d => eqs34 (d + 98) _ ((e137.ID.N:Nat):Int) ((e94.ID.N:Nat):Int) e137.ID.P e94.ID.P))) ?_
 refine q_st (v:=.bool (decide (e137.ID = e94.ID))) (fun w hs => (x_move (.tmp rfl (cVb (GViewID.beq_dec e137.ID e94.ID))))) ?_
 refine jq 7 (fun ρ => ρ 104 = .bool ((decide (e137.ID = e94.ID)) && (!(decide (e137 = e94))))∧ρ 5 = .pointer (some ⟨y.a,0,none⟩)∧ρ 7 = v_sn∧ρ 8 = .int .i64 ((p:Nat):Int)∧ρ 9 = .pointer (some ⟨g59,0,none⟩)∧ρ 10 = .int .i64 ((k:Nat):Int)∧ρ 11 = .pointer (some ⟨g103,0,none⟩)∧ρ 12 = .int .i64 ((m:Nat):Int)∧True) ?_ ?_
 rcases Bool.eq_false_or_eq_true (decide (e137.ID = e94.ID)) with hc146 | hc146
 have hp146:e137.ID = e94.ID:=of_decide_eq_true hc146
 refine q_yes (yk 97 true rfl rfl hc146) ?_
 refine q_st (v:=v_sn) (fun w hs => (x_move (.tmp rfl hρ122))) ?_
 refine q_yes (yk 97 true rfl rfl hc146) ?_
 refine q_st (v:=.int .i64 ((m:Nat):Int)) (fun w hs => (x_move (.tmp rfl hρ127))) ?_
 refine q_yes (yk 97 true rfl rfl hc146) ?_
 obtain ⟨g147,c148,hv149⟩:=ok_sn.pos (by omega)
 refine q_st (v:=.pointer (some ⟨g147,(m * 3),none⟩)) (fun w hs => (ixo63 (.tmp rfl hv149) rfl (i:=((m:Nat):Int)) (.tmp rfl rfl) (by omega) (by omega) (by omega))) ?_
 refine q_yes (yk 97 true rfl rfl hc146) ?_
 refine q_st (v:=.agg #[.int .u64 ((e137.ID.N:Nat):Int),.int .i64 e137.ID.P,.int .u16 ((e137.Set:Nat):Int)]) (fun w hs => (ld39 (cs:=[.int .u64 ((e137.ID.N:Nat):Int),.int .i64 e137.ID.P,.int .u16 ((e137.Set:Nat):Int)]) (.tmp rfl rfl) ((hs.rowAt 0 rfl hv149 (m * 3) hsub141).sub 0 rfl) rfl)) ?_
 refine q_yes (yk 97 true rfl rfl hc146) ?_
 refine q_st (v:=.agg #[.int .u64 ((e94.ID.N:Nat):Int),.int .i64 e94.ID.P,.int .u16 ((e94.Set:Nat):Int)]) (fun w hs => (ld39 (cs:=[.int .u64 ((e94.ID.N:Nat):Int),.int .i64 e94.ID.P,.int .u16 ((e94.Set:Nat):Int)]) (.tmp rfl hρ126) (hs.at_ 2 rfl (0) rfl) rfl)) ?_
 refine q_yes (yk 97 true rfl rfl hc146) ?_
 refine q_st (v:=.bool (!(((((e137.ID.N:Nat):Int) == ((e94.ID.N:Nat):Int)) && ((e137.ID.P == e94.ID.P) && true)) && ((((e137.Set:Nat):Int) == ((e94.Set:Nat):Int)) && true)))) (fun w hs => (x_neqA eqg39 (.tmp rfl rfl) (.tmp rfl rfl) (fun d => eqs39 (d + 97) _ ((e137.ID.N:Nat):Int) ((e94.ID.N:Nat):Int) e137.ID.P e94.ID.P ((e137.Set:Nat):Int) ((e94.Set:Nat):Int)))) ?_
 refine q_st (v:=.bool (!(decide (e137 = e94)))) (fun w hs => (x_pick_t (.tmp rfl (cVb hc146)) (.tmp rfl (congrArg (fun z => Value.bool (!z)) (GView.beq_dec e137 e94))))) ?_
 exact jq_end ⟨(cVb (jand_t hc146)),hρ121,hρ122,hρ123,hρ124,hρ125,hρ126,hρ127,True.intro⟩
 have hp146:¬ (e137.ID = e94.ID):=of_decide_eq_false hc146
 refine q_no (yk 97 false rfl rfl hc146) rfl ?_
 refine q_no (yk 97 false rfl rfl hc146) rfl ?_
 refine q_no (yk 97 false rfl rfl hc146) rfl ?_
 refine q_no (yk 97 false rfl rfl hc146) rfl ?_
 refine q_no (yk 97 false rfl rfl hc146) rfl ?_
 refine q_no (yk 97 false rfl rfl hc146) rfl ?_
 refine q_st (v:=.bool false) (fun w hs => (x_pick_f (.tmp rfl (cVb hc146)) .const)) ?_
 exact jq_end ⟨(cVb (jand_f hc146)),hρ121,hρ122,hρ123,hρ124,hρ125,hρ126,hρ127,True.intro⟩
 rintro ρ ⟨hρ150,hρ151,hρ152,hρ153,hρ154,hρ155,hρ156,hρ157,_⟩
 refine q_nil ?_
 intro w hs159
 refine n_then ?_
 have hc160:((decide (e137.ID = e94.ID)) && (!(decide (e137 = e94)))) = false:=(by by_cases hq:e137.ID = e94.ID; rw [hI.log.uniq _ (hsn2 _ (List.mem_of_getElem? hx139)) _ hvm_e94.1 hq]; simp; simp [hq])
 refine c_cond_f (t:=false) (.tmp rfl (hρ150.trans (cVb hc160))) rfl ?_
 refine c_skip (n_block (n_then (c_region (st (v:=.int .i64 ((m:Nat):Int)) (x_move (.tmp rfl hρ157)) ?_))))
 refine st (v:=.int .i64 (((m + 1):Nat):Int)) (x_add (k:=.i64) (a:=((m:Nat):Int)) (b:=1) (.tmp rfl rfl) .const ((w64 (by omega) (by omega)).trans (by omega))) ?_
 refine st (v:=.int .i64 (((m + 1):Nat):Int)) (x_assign (.tmp rfl rfl)) ?_
 refine c_nil ?_
 refine n_then ⟨_,_,rfl,?_,(m + 1),hρ151,hρ152,hρ153,hρ154,hρ155,hρ156,rfl,(by omega),((((((hs159.p5).p5).p5).p5).p5).p5),rfl⟩
 omega
 have hp133:¬ ((((m:Nat):Int):Int) < ((sn.length:Nat):Int)):=of_decide_eq_false hc133
 refine c_cond_f (t:=false) (.tmp rfl (cVb hc133)) rfl ?_
 refine c_exit (x_then (x_then (x_here (n_then (c_region (st (v:=v_sn) (x_move (.tmp rfl hρ122)) ?_))))))
 refine st (v:=.agg #[.int .u64 ((e94.ID.N:Nat):Int),.int .i64 e94.ID.P,.int .u16 ((e94.Set:Nat):Int)]) (ld39 (cs:=[.int .u64 ((e94.ID.N:Nat):Int),.int .i64 e94.ID.P,.int .u16 ((e94.Set:Nat):Int)]) (.tmp rfl hρ126) (hs128.at_ 2 rfl (0) rfl) rfl) ?_
 refine st_m (m_lit (n:=1) (ps:=[(0,.agg #[.int .u64 ((e94.ID.N:Nat):Int),.int .i64 e94.ID.P,.int .u16 ((e94.Set:Nat):Int)])]) (cs:=[.int .u64 ((e94.ID.N:Nat):Int),.int .i64 e94.ID.P,.int .u16 ((e94.Set:Nat):Int)]) Tryd.underlying63 inf39 (.cons (.tmp rfl rfl) Evp.nil) (by decide) (by decide) rfl rfl hs128) ?_
 rintro _ w162 ⟨g161,rfl,hs164⟩
 have hs165:=hs164.p1
 have hr173:kView.rep H11 e94 [.int .u64 ((e94.ID.N:Nat):Int),.int .i64 e94.ID.P,.int .u16 ((e94.Set:Nat):Int)]:=⟨rfl,b99,⟨b100,b101⟩,b102⟩
 refine st_m (m_appK (d:=kView) (ys:=[e94]) (news:=[.int .u64 ((e94.ID.N:Nat):Int),.int .i64 e94.ID.P,.int .u16 ((e94.Set:Nat):Int)]) Tryd.underlying63 inf39 rfl hs165 ok_sn hk_sn (.tmp rfl rfl) (.tmp rfl rfl) (Kn.rows_one hr173) rfl (hs165.at_ 1 rfl 0 rfl) (by have:([e94]:List GView).length = 1:=rfl; omega) (by decide)) ?_
 rintro v166 w167 ⟨cs168,ok169,hk170,hs171⟩
 have hn172:(sn ++ [e94]).length = sn.length + 1:=by simp
 refine st (v:=v166) (x_assign (.tmp rfl rfl)) ?_
 refine c_nil (n_block (n_then (c_region (st (v:=.int .i64 ((k:Nat):Int)) (x_move (.tmp rfl hρ125)) ?_))))
 refine st (v:=.int .i64 (((k + 1):Nat):Int)) (x_add (k:=.i64) (a:=((k:Nat):Int)) (b:=1) (.tmp rfl rfl) .const ((w64 (by omega) (by omega)).trans (by omega))) ?_
 refine st (v:=.int .i64 (((k + 1):Nat):Int)) (x_assign (.tmp rfl rfl)) ?_
 refine c_nil ?_
 refine n_then ⟨_,_,rfl,?_,(k + 1),(sn ++ [e94]),v166,cs168,e94.ID,hρ121,rfl,hρ123,hρ124,rfl,ok169,hk170,(by omega),(prev_succ hx96),b99,⟨b100,b101⟩,(fun v hv => (List.mem_append.1 hv).elim (hsn2 v) (fun h => by rw [List.mem_singleton.1 h]; exact (hvo.mem _ (List.mem_of_getElem? hx96)).1)),(by simp only [List.length_append,List.length_singleton]; omega),(((((((hs171.p1).drop.p2).drop.p4).p4).p4).p4).p4),rfl⟩
 omega
 have hp87:¬ ((((k:Nat):Int):Int) < ((e66.xs.length:Nat):Int)):=of_decide_eq_false hc87
 refine c_cond_f (t:=false) (.tmp rfl (cVb hc87)) rfl ?_
 refine c_exit (x_then (x_then (x_here (n_then (c_seq (t_region (L:=row 39 3 v_sn sn.length c_sn::obj g59 34 (clViewID la)::obj y.a 67 [.int .i64 ((y.n:Nat):Int),.slice y.A y.ln y.lc,y.bv,y.vv]::row 53 16 y.bv y.bag.length y.bc::row 63 1 y.vv y.vs.length y.vc::memsR 78 81 37 y.ms ++ (vrsR 39 y.vs ++ (L))) (L':=row 39 3 v_sn sn.length c_sn::obj g59 34 (clViewID la)::obj y.a 67 [.int .i64 ((y.n:Nat):Int),.slice y.A y.ln y.lc,y.bv,y.vv]::row 53 16 y.bv y.bag.length y.bc::row 63 1 y.vv y.vs.length y.vc::L) (Z:=[]) (F:=[]) (pl:=(.q 0 (.q 1 (.q 2 (.q 3 (.q 4 (.q 5 (.q 6 (.q 9 (.e 7 (.q 8 (.q 10 (.q 11 (.q 12 (.q 13 (.q 14 (.q 15 (.q 16 (.q 17 (.q 18 (.q 20 (.e 19 (.e 21 (.q 22 (.q 23 .done))))))))))))))))))))))))) mixed hs79 (fun u hu => (St.dropL [row 39 3 v_sn sn.length c_sn,obj g59 34 (clViewID la),obj y.a 67 [.int .i64 ((y.n:Nat):Int),.slice y.A y.ln y.lc,y.bv,y.vv],row 53 16 y.bv y.bag.length y.bc,row 63 1 y.vv y.vs.length y.vc] (St.dropL [row 39 3 v_sn sn.length c_sn,obj g59 34 (clViewID la),obj y.a 67 [.int .i64 ((y.n:Nat):Int),.slice y.A y.ln y.lc,y.bv,y.vv],row 53 16 y.bv y.bag.length y.bc,row 63 1 y.vv y.vs.length y.vc] hu))) (by kernel_rfl) ?_))))))
 intro w174 hs175
 have hlast:la = (y.g.m p).cur.ID:=by rw [hla,show k = e66.xs.length by omega]; exact views_last hvo
 refine t_st (k:=0) (v:=.pointer (some ⟨y.a,0,none⟩)) rfl rfl (fun w hs => (x_move (.tmp rfl hρ74))) ?_
 refine t_st (k:=1) (v:=.pointer (some ⟨y.a,0,none⟩)) rfl rfl (fun w hs => (x_nilCheck (.tmp rfl rfl))) ?_
 refine t_st (k:=2) (v:=.pointer (some ⟨y.a,0 + 1,none⟩)) rfl rfl (fun w hs => (fa67_1 (.tmp rfl rfl))) ?_
 refine t_st (k:=3) (v:=.slice y.A y.ln y.lc) rfl rfl (fun w hs => (ld64 (.tmp rfl rfl) (hs.cell 2 rfl (0 + 1) rfl))) ?_
 refine t_st (k:=4) (v:=.int .i64 ((p:Nat):Int)) rfl rfl (fun w hs => (x_move (.tmp rfl hρ76))) ?_
 obtain ⟨e176,b177,o178,cs179,hx180,hA181,hr182,hat183⟩:=oky.l.get (i:=p) (by omega)
 obtain ⟨rfl⟩:=hr182
 have hat183x:∀ {w:World} {L:List Res},St H11 w L → At w ⟨b177,o178 + p * 1,none⟩ [.pointer (some ⟨e176,0,none⟩)]:=fun h => hat183 h
 obtain ⟨mm184,hm185,hg186⟩:=ptr_at hx180
 refine t_st (k:=5) (v:=.pointer (some ⟨b177,(o178 + p * 1),none⟩)) rfl rfl (fun w hs => (ixo64 (.tmp rfl rfl) hA181 (i:=((p:Nat):Int)) (.tmp rfl rfl) (by omega) (by omega) (by omega))) ?_
 refine t_st (k:=6) (v:=.pointer (some ⟨e176,0,none⟩)) rfl rfl (fun w hs => (ld23 (.tmp rfl rfl) ((hat183x hs).cell 0 rfl))) ?_
 refine t_st (k:=9) (v:=.agg #[.int .u64 ((la.N:Nat):Int),.int .i64 la.P]) rfl rfl (fun w hs => (ld34 (cs:=[.int .u64 ((la.N:Nat):Int),.int .i64 la.P]) (.tmp rfl hρ77) (hs.at_ 1 rfl (0) rfl) rfl)) ?_
 refine t_eff (k:=7) rfl ?_
 have hs187:St H11 _ (MM.res 78 81 37 mm184 ++ (row 39 3 v_sn sn.length c_sn::obj g59 34 (clViewID la)::obj y.a 67 [.int .i64 ((y.n:Nat):Int),.slice y.A y.ln y.lc,y.bv,y.vv]::row 53 16 y.bv y.bag.length y.bc::row 63 1 y.vv y.vs.length y.vc::memsR 78 81 37 (y.ms.eraseIdx p) ++ (vrsR 39 y.vs ++ (L)))):=St.mmOut [row 39 3 v_sn sn.length c_sn,obj g59 34 (clViewID la),obj y.a 67 [.int .i64 ((y.n:Nat):Int),.slice y.A y.ln y.lc,y.bv,y.vv],row 53 16 y.bv y.bag.length y.bc,row 63 1 y.vv y.vs.length y.vc] hs175 hm185
 refine st_c cb14 .func (evs1 (.tmp rfl (congrArg (fun z => Value.pointer (some ⟨z,0,none⟩)) hg186.symm))) (cur_mm hs187 (x:=mm184) (MsOk.get oky.mok hm185) ) ?_
 rintro e w188 ⟨cs190,rfl,hr191,hs189⟩
 obtain ⟨rfl,b192,⟨b193,b194⟩,b195⟩:=hr191
 refine ⟨_,rfl,?_⟩
 have hs196:St H11 _ (row 39 3 v_sn sn.length c_sn::obj g59 34 (clViewID la)::obj y.a 67 [.int .i64 ((y.n:Nat):Int),.slice y.A y.ln y.lc,y.bv,y.vv]::row 53 16 y.bv y.bag.length y.bc::row 63 1 y.vv y.vs.length y.vc::memsR 78 81 37 y.ms ++ (vrsR 39 y.vs ++ (L))):=St.mmBack [row 39 3 v_sn sn.length c_sn,obj g59 34 (clViewID la),obj y.a 67 [.int .i64 ((y.n:Nat):Int),.slice y.A y.ln y.lc,y.bv,y.vv],row 53 16 y.bv y.bag.length y.bc,row 63 1 y.vv y.vs.length y.vc] hs189 hm185
 refine t_on (S':=fun u => St H11 u (row 39 3 v_sn sn.length c_sn::obj g59 34 (clViewID la)::obj y.a 67 [.int .i64 ((y.n:Nat):Int),.slice y.A y.ln y.lc,y.bv,y.vv]::row 53 16 y.bv y.bag.length y.bc::row 63 1 y.vv y.vs.length y.vc::L)) (fun u hu => hu) (St.dropL [row 39 3 v_sn sn.length c_sn,obj g59 34 (clViewID la),obj y.a 67 [.int .i64 ((y.n:Nat):Int),.slice y.A y.ln y.lc,y.bv,y.vv],row 53 16 y.bv y.bag.length y.bc,row 63 1 y.vv y.vs.length y.vc] (St.dropL [row 39 3 v_sn sn.length c_sn,obj g59 34 (clViewID la),obj y.a 67 [.int .i64 ((y.n:Nat):Int),.slice y.A y.ln y.lc,y.bv,y.vv],row 53 16 y.bv y.bag.length y.bc,row 63 1 y.vv y.vs.length y.vc] hs196)) ?_
 refine t_st (k:=8) (v:=.agg #[.int .u64 ((mm184.m.cur.ID.N:Nat):Int),.int .i64 mm184.m.cur.ID.P]) rfl rfl (fun w hs => (x_field Tryd.underlying39 rfl (.tmp rfl rfl) (fun w => (part_agg (by kernel_rfl) inf34 rfl)))) ?_
 refine t_st (k:=10) (v:=.bool (!((((mm184.m.cur.ID.N:Nat):Int) == ((la.N:Nat):Int)) && ((mm184.m.cur.ID.P == la.P) && true)))) rfl rfl (fun w hs => (x_neqA eqg34 (.tmp rfl rfl) (.tmp rfl rfl) (fun d => eqs34 (d + 98) _ ((mm184.m.cur.ID.N:Nat):Int) ((la.N:Nat):Int) mm184.m.cur.ID.P la.P))) ?_
 refine t_st (k:=11) (v:=.bool (!(decide (mm184.m.cur.ID = la)))) rfl rfl (fun w hs => (x_move (.tmp rfl (congrArg (fun z => Value.bool (!z)) (GViewID.beq_dec mm184.m.cur.ID la))))) ?_
 have hc197:(decide (mm184.m.cur.ID = la)) = true:=(decide_eq_true (by rw [hlast,gok_m hm185]))
 have hp197:mm184.m.cur.ID = la:=of_decide_eq_true hc197
 refine t_yes (k:=12) (v:=.pointer (some ⟨y.a,0,none⟩)) rfl rfl (yl (dj:=120) (b:=false) rfl rfl (cVb (by rw [hc197]; rfl))) (fun w hs => (x_move (.tmp rfl hρ74))) ?_
 refine t_yes (k:=13) (v:=.pointer (some ⟨y.a,0,none⟩)) rfl rfl (yl (dj:=120) (b:=false) rfl rfl (cVb (by rw [hc197]; rfl))) (fun w hs => (x_nilCheck (.tmp rfl rfl))) ?_
 refine t_yes (k:=14) (v:=.pointer (some ⟨y.a,0 + 1,none⟩)) rfl rfl (yl (dj:=120) (b:=false) rfl rfl (cVb (by rw [hc197]; rfl))) (fun w hs => (fa67_1 (.tmp rfl rfl))) ?_
 refine t_yes (k:=15) (v:=.slice y.A y.ln y.lc) rfl rfl (yl (dj:=120) (b:=false) rfl rfl (cVb (by rw [hc197]; rfl))) (fun w hs => (ld64 (.tmp rfl rfl) (hs.cell 2 rfl (0 + 1) rfl))) ?_
 refine t_yes (k:=16) (v:=.int .i64 ((p:Nat):Int)) rfl rfl (yl (dj:=120) (b:=false) rfl rfl (cVb (by rw [hc197]; rfl))) (fun w hs => (x_move (.tmp rfl hρ76))) ?_
 refine t_yes (k:=17) (v:=.pointer (some ⟨b177,(o178 + p * 1),none⟩)) rfl rfl (yl (dj:=120) (b:=false) rfl rfl (cVb (by rw [hc197]; rfl))) (fun w hs => (ixo64 (.tmp rfl rfl) hA181 (i:=((p:Nat):Int)) (.tmp rfl rfl) (by omega) (by omega) (by omega))) ?_
 refine t_yes (k:=18) (v:=.pointer (some ⟨e176,0,none⟩)) rfl rfl (yl (dj:=120) (b:=false) rfl rfl (cVb (by rw [hc197]; rfl))) (fun w hs => (ld23 (.tmp rfl rfl) ((hat183x hs).cell 0 rfl))) ?_
 refine t_yes (k:=20) (v:=.agg #[.int .u64 ((la.N:Nat):Int),.int .i64 la.P]) rfl rfl (yl (dj:=120) (b:=false) rfl rfl (cVb (by rw [hc197]; rfl))) (fun w hs => (ld34 (cs:=[.int .u64 ((la.N:Nat):Int),.int .i64 la.P]) (.tmp rfl hρ77) (hs.at_ 1 rfl (0) rfl) rfl)) ?_
 refine t_eff (k:=19) rfl ?_
 refine g_yes (yl (dj:=120) (b:=false) rfl rfl (cVb (by rw [hc197]; rfl))) ?_
 have hs198:St H11 _ (MM.res 78 81 37 mm184 ++ (row 39 3 v_sn sn.length c_sn::obj g59 34 (clViewID la)::obj y.a 67 [.int .i64 ((y.n:Nat):Int),.slice y.A y.ln y.lc,y.bv,y.vv]::row 53 16 y.bv y.bag.length y.bc::row 63 1 y.vv y.vs.length y.vc::memsR 78 81 37 (y.ms.eraseIdx p) ++ (vrsR 39 y.vs ++ (L)))):=St.mmOut [row 39 3 v_sn sn.length c_sn,obj g59 34 (clViewID la),obj y.a 67 [.int .i64 ((y.n:Nat):Int),.slice y.A y.ln y.lc,y.bv,y.vv],row 53 16 y.bv y.bag.length y.bc,row 63 1 y.vv y.vs.length y.vc] hs196 hm185
 refine st_c cb19 .func (evs1 (.tmp rfl (congrArg (fun z => Value.pointer (some ⟨z,0,none⟩)) hg186.symm))) (prom_mm hs198 (x:=mm184) (MsOk.get oky.mok hm185) ) ?_
 rintro e w199 ⟨cs201,rfl,hr202,hs200⟩
 obtain ⟨rfl,b203,⟨b204,b205⟩⟩:=hr202
 refine ⟨_,rfl,?_⟩
 have hs206:St H11 _ (row 39 3 v_sn sn.length c_sn::obj g59 34 (clViewID la)::obj y.a 67 [.int .i64 ((y.n:Nat):Int),.slice y.A y.ln y.lc,y.bv,y.vv]::row 53 16 y.bv y.bag.length y.bc::row 63 1 y.vv y.vs.length y.vc::memsR 78 81 37 y.ms ++ (vrsR 39 y.vs ++ (L))):=St.mmBack [row 39 3 v_sn sn.length c_sn,obj g59 34 (clViewID la),obj y.a 67 [.int .i64 ((y.n:Nat):Int),.slice y.A y.ln y.lc,y.bv,y.vv],row 53 16 y.bv y.bag.length y.bc,row 63 1 y.vv y.vs.length y.vc] hs200 hm185
 refine t_on (S':=fun u => St H11 u (row 39 3 v_sn sn.length c_sn::obj g59 34 (clViewID la)::obj y.a 67 [.int .i64 ((y.n:Nat):Int),.slice y.A y.ln y.lc,y.bv,y.vv]::row 53 16 y.bv y.bag.length y.bc::row 63 1 y.vv y.vs.length y.vc::L)) (fun u hu => hu) (St.dropL [row 39 3 v_sn sn.length c_sn,obj g59 34 (clViewID la),obj y.a 67 [.int .i64 ((y.n:Nat):Int),.slice y.A y.ln y.lc,y.bv,y.vv],row 53 16 y.bv y.bag.length y.bc,row 63 1 y.vv y.vs.length y.vc] (St.dropL [row 39 3 v_sn sn.length c_sn,obj g59 34 (clViewID la),obj y.a 67 [.int .i64 ((y.n:Nat):Int),.slice y.A y.ln y.lc,y.bv,y.vv],row 53 16 y.bv y.bag.length y.bc,row 63 1 y.vv y.vs.length y.vc] hs206)) ?_
 refine t_eff (k:=21) rfl ?_
 refine g_yes (yl (dj:=120) (b:=false) rfl rfl (cVb (by rw [hc197]; rfl))) ?_
 refine st_c cb18 .func (evs2 (.tmp rfl rfl) (.tmp rfl rfl)) (rcompare_spec hs206 mm184.m.prom.N mm184.m.prom.P la.N la.P) ?_
 rintro e w207 ⟨rfl,hs208⟩
 refine ⟨_,rfl,?_⟩
 refine t_on (S':=fun u => St H11 u (row 39 3 v_sn sn.length c_sn::obj g59 34 (clViewID la)::obj y.a 67 [.int .i64 ((y.n:Nat):Int),.slice y.A y.ln y.lc,y.bv,y.vv]::row 53 16 y.bv y.bag.length y.bc::row 63 1 y.vv y.vs.length y.vc::L)) (fun u hu => hu) (St.dropL [row 39 3 v_sn sn.length c_sn,obj g59 34 (clViewID la),obj y.a 67 [.int .i64 ((y.n:Nat):Int),.slice y.A y.ln y.lc,y.bv,y.vv],row 53 16 y.bv y.bag.length y.bc,row 63 1 y.vv y.vs.length y.vc] (St.dropL [row 39 3 v_sn sn.length c_sn,obj g59 34 (clViewID la),obj y.a 67 [.int .i64 ((y.n:Nat):Int),.slice y.A y.ln y.lc,y.bv,y.vv],row 53 16 y.bv y.bag.length y.bc,row 63 1 y.vv y.vs.length y.vc] hs208)) ?_
 refine t_yes (k:=22) (v:=.bool (decide (((cmpV mm184.m.prom.N mm184.m.prom.P la.N la.P):Int) < 0))) rfl rfl (yl (dj:=120) (b:=false) rfl rfl (cVb (by rw [hc197]; rfl))) (fun w hs => (x_lss (k:=.i64) (a:=(cmpV mm184.m.prom.N mm184.m.prom.P la.N la.P)) (b:=0) (.tmp rfl rfl) .const)) ?_
 refine t_st (k:=23) (v:=.bool (decide (((cmpV mm184.m.prom.N mm184.m.prom.P la.N la.P):Int) < 0))) rfl rfl (fun w hs => (x_pick_f (.tmp rfl (cVb (by rw [hc197]; rfl))) (.tmp rfl rfl))) ?_
 refine t_nil ?_
 refine n_then ?_
 have hc209:(decide (((cmpV mm184.m.prom.N mm184.m.prom.P la.N la.P):Int) < 0)) = false:=(decide_eq_false (cmp_ge (by rw [hlast,gok_m hm185]; have h9:=(hI.node p (show p < y.n by omega)).cp; rw [gok_m hm185] at h9; exact h9)))
 have hp209:¬ (((cmpV mm184.m.prom.N mm184.m.prom.P la.N la.P):Int) < 0):=of_decide_eq_false hc209
 refine c_cond_f (t:=false) (.tmp rfl (cVb hc209)) rfl ?_
 refine c_skip (n_block (n_then (c_region (st (v:=.int .i64 ((p:Nat):Int)) (x_move (.tmp rfl hρ76)) ?_))))
 refine st (v:=.int .i64 (((p + 1):Nat):Int)) (x_add (k:=.i64) (a:=((p:Nat):Int)) (b:=1) (.tmp rfl rfl) .const ((w64 (by omega) (by omega)).trans (by omega))) ?_
 refine st (v:=.int .i64 (((p + 1):Nat):Int)) (x_assign (.tmp rfl rfl)) ?_
 refine c_nil ?_
 refine n_then ⟨_,_,rfl,?_,(p + 1),sn,v_sn,c_sn,hρ74,hρ75,rfl,ok_sn,hk_sn,(by omega),hsn2,(by have:=hvl1; omega),(((((hs208.p1).drop.p3).p3).p3).p3),rfl⟩
 omega
 have hp58:¬ ((((p:Nat):Int):Int) < ((y.n:Nat):Int)):=of_decide_eq_false hc58
 refine c_cond_f (t:=false) (.tmp rfl (cVb hc58)) rfl ?_
 refine c_exit (x_then (x_then (x_here (n_then (c_seq (c_region (st (v:=.bool true) (x_assign .const) ?_)))))))
 refine c_nil (n_then (c_ret (leave_ret (res_one (v:=.bool true) rfl (.mk rfl rfl)) ?_)))
 exact ⟨rfl,((St.dropL [] (St.dropL [] hs57.drop.drop.drop.drop)).weaken (hle6.trans hg12))⟩
end Go.Proofs.YtcccaihjgoaehaaDoor
