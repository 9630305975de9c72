/- Steps of the proofs over the functions of this seat, printed by a program (gen.py) and checked by Lean. -/
import Derived.Test.YtcccaihjgoaehaaDoorW01
import Derived.Test.YtcccaihjgoaehaaDoorW00
import Derived.Test.YtcccaihjgoaehaaDoorW03
import Derived.Test.YtcccaihjgoaehaaDoorW11
set_option linter.unusedVariables false
set_option linter.unusedSimpArgs false
namespace Go.Proofs.YtcccaihjgoaehaaDoor
open Go Go.FM Go.Proofs
attribute [local irreducible] wpList wpQuiet wpS Code.wp Calls
set_option maxHeartbeats 8000000 in
theorem accepts_law {H:Hp} {w:World} {L:List Res} (hs:St H w (L)) (z:Nat) (b_z:z < 256) {A_l:Option Addr} {n_l c_l:Nat} (l:(List GMove)) (h_l:Sl kMove H A_l n_l c_l l) (htab:Tab H):Calls Tryd.prog 6 #[.int .u8 ((z:Nat):Int),.slice A_l n_l c_l] w (fun e w' => e = .returned (.bool true)∧St H w' (L)):=by
 have:=h_l.len; have:=h_l.le; have:n_l * 6 ≤ 140737488351232:=h_l.bnd
 refine enter (args:=[.int .u8 ((z:Nat):Int),.slice A_l n_l c_l]) (N:=158) Tryd.func6 rfl rfl rfl ?_
 refine c_seq (c_region (st (v:=.bool false) (x_assign .const) ?_))
 refine c_nil (n_then (c_seq (c_seq (c_region (st_c cb10 .func (evs0 ) (awake_spec hs  htab) ?_)))))
 rintro e w1 ⟨rfl,hs2⟩
 refine ⟨_,rfl,?_⟩
 refine st (v:=.bool false) (x_not (b:=true) (.tmp rfl rfl)) ?_
 refine c_nil (n_then (c_cond_f (t:=false) (.tmp rfl rfl) rfl ?_))
 refine c_skip (n_then (c_seq (c_region (st (v:=.int .u8 ((z:Nat):Int)) (x_move (.tmp rfl rfl)) ?_))))
 refine st (v:=.int .i64 ((z:Nat):Int)) (x_conv (k:=.u8) (a:=((z:Nat):Int)) Tryd.underlying5 Tryd.underlying3 (.tmp rfl rfl) (w64 (by omega) (by omega))) ?_
 refine st (v:=.int .i64 (((z % 5):Nat):Int)) (x_remN (k:=.i64) (m:=z) (n:=5) (.tmp rfl rfl) .const (by omega)) ?_
 refine st (v:=.int .i64 (((2 + (z % 5)):Nat):Int)) (x_add (k:=.i64) (a:=2) (b:=(((z % 5):Nat):Int)) .const (.tmp rfl rfl) ((w64 (by omega) (by omega)).trans (by omega))) ?_
 refine st_c cb20 .func (evs1 (.tmp rfl rfl)) (begin_spec hs2 (2 + (z % 5)) (by omega) (by omega)) ?_
 rintro e w3 ⟨H5,gr7,hle6,rfl,okg8,hgg9,hs4⟩
 refine ⟨_,rfl,?_⟩
 have hs10:St H5 _ (obj gr7.a 67 [.int .i64 ((gr7.n:Nat):Int),.slice gr7.A gr7.ln gr7.lc,gr7.bv,gr7.vv]::row 53 16 gr7.bv gr7.bag.length gr7.bc::row 63 1 gr7.vv gr7.vs.length gr7.vc::memsR 78 81 37 gr7.ms ++ (vrsR 39 gr7.vs ++ (L))):=St.grpOpen [] hs4
 refine st (v:=.pointer (some ⟨gr7.a,0,none⟩)) (x_assign (.tmp rfl rfl)) ?_
 refine c_nil (n_then (c_seq (c_seq (c_region (st (v:=.pointer (some ⟨gr7.a,0,none⟩)) (x_move (.tmp rfl rfl)) ?_)))))
 refine st (v:=.bool false) (x_eqlP Tryd.underlying58 (.tmp rfl rfl) .const rfl) ?_
 refine c_nil (n_then (c_cond_f (t:=false) (.tmp rfl rfl) rfl ?_))
 refine c_skip (n_then (c_seq (c_seq (c_region (st (v:=.int .i64 0) (x_assign .const) ?_)))))
 refine c_nil (n_then (c_block ?_))
 have hn0:gr7.n = (2 + z % 5):=congrArg GG.n hgg9
 refine c_loop (fun ρ w mm => ∃ (H11:Hp) (i:Nat) (y:GR),ρ 1 = .slice A_l n_l c_l∧ρ 5 = .pointer (some ⟨y.a,0,none⟩)∧ρ 6 = .int .i64 ((i:Nat):Int)∧(H5.le H11)∧(i ≤ 150)∧(i ≤ l.length)∧(GR.ok y H11)∧(RunOk i y.g)∧(y.n = (2 + z % 5))∧St H11 w (obj y.a 67 [.int .i64 ((y.n:Nat):Int),.slice y.A y.ln y.lc,y.bv,y.vv]::row 53 16 y.bv y.bag.length y.bc::row 63 1 y.vv y.vs.length y.vc::memsR 78 81 37 y.ms ++ (vrsR 39 y.vs ++ (L)))∧mm = 150 - i) _ ⟨H5,0,gr7,rfl,rfl,rfl,(Hp.le.refl _),(by omega),(by omega),okg8,(by rw [hgg9]; exact RunOk.start (by omega) (by omega)),hn0,(((hs10.p2).p2).p2),rfl⟩ ?_
 rintro ρ w mm ⟨H11,i,y,hρ13,hρ14,hρ15,hg12,hi,hil,oky,hy,hyn,hs16,rfl⟩
 refine c_seq (c_seq (c_region (st (v:=.int .i64 ((i:Nat):Int)) (x_move (.tmp rfl hρ15)) ?_)))
 refine st (v:=.slice A_l n_l c_l) (x_move (.tmp rfl hρ13)) ?_
 refine st (v:=.int .i64 ((n_l:Nat):Int)) (x_len (n:=n_l) Tryd.underlying57 (.tmp rfl rfl)) ?_
 refine st (v:=.bool (decide ((((i:Nat):Int):Int) < ((n_l:Nat):Int)))) (x_lss (k:=.i64) (a:=((i:Nat):Int)) (b:=((n_l:Nat):Int)) (.tmp rfl rfl) (.tmp rfl rfl)) ?_
 refine st (v:=.bool (decide ((((i:Nat):Int):Int) < ((n_l:Nat):Int)))) (x_move (.tmp rfl rfl)) ?_
 refine jw 3 (fun ρ w => ρ 28 = .bool ((decide ((((i:Nat):Int):Int) < ((n_l:Nat):Int))) && (decide ((((i:Nat):Int):Int) < 150)))∧ρ 1 = .slice A_l n_l c_l∧ρ 5 = .pointer (some ⟨y.a,0,none⟩)∧ρ 6 = .int .i64 ((i:Nat):Int)∧St H11 w (obj y.a 67 [.int .i64 ((y.n:Nat):Int),.slice y.A y.ln y.lc,y.bv,y.vv]::row 53 16 y.bv y.bag.length y.bc::row 63 1 y.vv y.vs.length y.vc::memsR 78 81 37 y.ms ++ (vrsR 39 y.vs ++ (L)))) ?_ ?_
 rcases Bool.eq_false_or_eq_true (decide ((((i:Nat):Int):Int) < ((n_l:Nat):Int))) with hc17 | hc17
 have hp17:(((i:Nat):Int):Int) < ((n_l:Nat):Int):=of_decide_eq_true hc17
 refine g_yes (yk 25 true rfl rfl hc17) ?_
 refine st (v:=.int .i64 ((i:Nat):Int)) (x_move (.tmp rfl hρ15)) ?_
 refine g_yes (yk 25 true rfl rfl hc17) ?_
 refine st (v:=.bool (decide ((((i:Nat):Int):Int) < 150))) (x_lss (k:=.i64) (a:=((i:Nat):Int)) (b:=150) (.tmp rfl rfl) .const) ?_
 refine st (v:=.bool (decide ((((i:Nat):Int):Int) < 150))) (x_pick_t (.tmp rfl (cVb hc17)) (.tmp rfl rfl)) ?_
 exact jw_end ⟨(cVb (jand_t hc17)),hρ13,hρ14,hρ15,hs16⟩
 have hp17:¬ ((((i:Nat):Int):Int) < ((n_l:Nat):Int)):=of_decide_eq_false hc17
 refine g_no (yk 25 false rfl rfl hc17) rfl ?_
 refine g_no (yk 25 false rfl rfl hc17) rfl ?_
 refine st (v:=.bool false) (x_pick_f (.tmp rfl (cVb hc17)) .const) ?_
 exact jw_end ⟨(cVb (jand_f hc17)),hρ13,hρ14,hρ15,hs16⟩
 rintro ρ w ⟨hρ18,hρ19,hρ20,hρ21,hs22⟩
 refine c_nil (n_then ?_)
 rcases Bool.eq_false_or_eq_true ((decide ((((i:Nat):Int):Int) < ((n_l:Nat):Int))) && (decide ((((i:Nat):Int):Int) < 150))) with hc23 | hc23
 have hp23:((((i:Nat):Int):Int) < ((n_l:Nat):Int))∧((((i:Nat):Int):Int) < 150):=((J_and decide_eq_true_iff decide_eq_true_iff)).1 hc23
 refine c_cond_t (t:=true) (.tmp rfl (hρ18.trans (cVb hc23))) rfl ?_
 refine c_skip (n_then (c_seq (c_block (c_seq (c_region ?_)))))
 have hpl2_y:=oky.l.len
 have hms_y:=gok_ms (hy.ok (by omega))
 have hvs_y:=gok_vs (hy.ok (by omega))
 have hpl_y:(ptrs y.ms).length = y.ms.length:=by unfold ptrs; rw [List.length_map]
 skip
 refine st (v:=.slice none 0 0) (x_assign .const) ?_
 refine c_nil (n_then (c_seq (c_region (st (v:=.slice none 0 0) (x_assign .const) ?_))))
 refine c_nil (n_then (c_seq (c_seq (c_region (st (v:=.int .i64 0) (x_assign .const) ?_)))))
 refine c_nil (n_then (c_block ?_))
 have hs25:=hs22.krowNil 34 kViewID
 have:([]:List GViewID).length = 0:=rfl
 have hs27:=hs25.krowNil 3 kI
 have:([]:List Int).length = 0:=rfl
 refine c_loop (fun ρ w mm => ∃ (p:Nat) (ps:List GViewID) (v_ps:Value) (c_ps:List Value) (ls:List Int) (v_ls:Value) (c_ls:List Value),ρ 1 = .slice A_l n_l c_l∧ρ 5 = .pointer (some ⟨y.a,0,none⟩)∧ρ 6 = .int .i64 ((i:Nat):Int)∧ρ 7 = v_ps∧ρ 8 = v_ls∧ρ 9 = .int .i64 ((p:Nat):Int)∧(RowOk kViewID.sz v_ps ps.length c_ps)∧(kViewID.toKn.rows H11 ps c_ps)∧(RowOk kI.sz v_ls ls.length c_ls)∧(kI.toKn.rows H11 ls c_ls)∧(p ≤ y.n)∧(ps = (List.range p).map (fun j => (y.g.m j).prom))∧(ls = (List.range p).map (fun j => ((y.g.views.getD j []).length:Int)))∧(ps.length = p)∧(ls.length = p)∧St H11 w (row 34 2 v_ps ps.length c_ps::row 3 1 v_ls ls.length c_ls::obj y.a 67 [.int .i64 ((y.n:Nat):Int),.slice y.A y.ln y.lc,y.bv,y.vv]::row 53 16 y.bv y.bag.length y.bc::row 63 1 y.vv y.vs.length y.vc::memsR 78 81 37 y.ms ++ (vrsR 39 y.vs ++ (L)))∧mm = y.n - p) _ ⟨0,([]:List GViewID),(.slice none 0 0),[],([]:List Int),(.slice none 0 0),[],hρ19,hρ20,hρ21,rfl,rfl,rfl,(RowOk.knil kViewID),(Kn.rows_nil _ _),(RowOk.knil kI),(Kn.rows_nil _ _),(by omega),rfl,rfl,rfl,rfl,(((((hs27.p4).p4).p4).p3).p4),rfl⟩ ?_
 rintro ρ w mm ⟨p,ps,v_ps,c_ps,ls,v_ls,c_ls,hρ29,hρ30,hρ31,hρ32,hρ33,hρ34,ok_ps,hk_ps,ok_ls,hk_ls,hp,hps,hls,hpn,hln,hs35,rfl⟩
 refine c_seq (c_seq (c_region (st (v:=.int .i64 ((p:Nat):Int)) (x_move (.tmp rfl hρ34)) ?_)))
 refine st (v:=.pointer (some ⟨y.a,0,none⟩)) (x_move (.tmp rfl hρ30)) ?_
 refine st (v:=.pointer (some ⟨y.a,0,none⟩)) (x_nilCheck (.tmp rfl rfl)) ?_
 refine st (v:=.pointer (some ⟨y.a,0 + 0,none⟩)) (fa67_0 (.tmp rfl rfl)) ?_
 refine st (v:=.int .i64 ((y.n:Nat):Int)) (ld3 (.tmp rfl rfl) (hs35.cell 2 rfl (0 + 0) rfl)) ?_
 refine st (v:=.bool (decide ((((p:Nat):Int):Int) < ((y.n:Nat):Int)))) (x_lss (k:=.i64) (a:=((p:Nat):Int)) (b:=((y.n:Nat):Int)) (.tmp rfl rfl) (.tmp rfl rfl)) ?_
 refine c_nil (n_then ?_)
 rcases Bool.eq_false_or_eq_true (decide ((((p:Nat):Int):Int) < ((y.n:Nat):Int))) with hc36 | hc36
 have hp36:(((p:Nat):Int):Int) < ((y.n:Nat):Int):=of_decide_eq_true hc36
 refine c_cond_t (t:=true) (.tmp rfl (cVb hc36)) rfl ?_
 refine c_skip (n_then (c_seq (c_block (c_seq (c_region (st (v:=v_ps) (x_move (.tmp rfl hρ32)) ?_))))))
 refine st (v:=.pointer (some ⟨y.a,0,none⟩)) (x_move (.tmp rfl hρ30)) ?_
 refine st (v:=.pointer (some ⟨y.a,0,none⟩)) (x_nilCheck (.tmp rfl rfl)) ?_
 refine st (v:=.pointer (some ⟨y.a,0 + 1,none⟩)) (fa67_1 (.tmp rfl rfl)) ?_
 refine st (v:=.slice y.A y.ln y.lc) (ld64 (.tmp rfl rfl) (hs35.cell 2 rfl (0 + 1) rfl)) ?_
 refine st (v:=.int .i64 ((p:Nat):Int)) (x_move (.tmp rfl hρ34)) ?_
 obtain ⟨e37,b38,o39,cs40,hx41,hA42,hr43,hat44⟩:=oky.l.get (i:=p) (by omega)
 obtain ⟨rfl⟩:=hr43
 have hat44x:∀ {w:World} {L:List Res},St H11 w L → At w ⟨b38,o39 + p * 1,none⟩ [.pointer (some ⟨e37,0,none⟩)]:=fun h => hat44 h
 obtain ⟨mm45,hm46,hg47⟩:=ptr_at hx41
 refine st (v:=.pointer (some ⟨b38,(o39 + p * 1),none⟩)) (ixo64 (.tmp rfl rfl) hA42 (i:=((p:Nat):Int)) (.tmp rfl rfl) (by omega) (by omega) (by omega)) ?_
 refine st (v:=.pointer (some ⟨e37,0,none⟩)) (ld23 (.tmp rfl rfl) ((hat44x hs35).cell 0 rfl)) ?_
 have hs48:St H11 _ (MM.res 78 81 37 mm45 ++ (row 34 2 v_ps ps.length c_ps::row 3 1 v_ls ls.length c_ls::obj y.a 67 [.int .i64 ((y.n:Nat):Int),.slice y.A y.ln y.lc,y.bv,y.vv]::row 53 16 y.bv y.bag.length y.bc::row 63 1 y.vv y.vs.length y.vc::memsR 78 81 37 (y.ms.eraseIdx p) ++ (vrsR 39 y.vs ++ (L)))):=St.mmOut [row 34 2 v_ps ps.length c_ps,row 3 1 v_ls ls.length c_ls,obj y.a 67 [.int .i64 ((y.n:Nat):Int),.slice y.A y.ln y.lc,y.bv,y.vv],row 53 16 y.bv y.bag.length y.bc,row 63 1 y.vv y.vs.length y.vc] hs35 hm46
 refine st_c cb19 .func (evs1 (.tmp rfl (congrArg (fun z => Value.pointer (some ⟨z,0,none⟩)) hg47.symm))) (prom_mm hs48 (x:=mm45) (MsOk.get oky.mok hm46) ) ?_
 rintro e w49 ⟨cs51,rfl,hr52,hs50⟩
 obtain ⟨rfl,b53,⟨b54,b55⟩⟩:=hr52
 refine ⟨_,rfl,?_⟩
 have hs56:St H11 _ (row 34 2 v_ps ps.length c_ps::row 3 1 v_ls ls.length c_ls::obj y.a 67 [.int .i64 ((y.n:Nat):Int),.slice y.A y.ln y.lc,y.bv,y.vv]::row 53 16 y.bv y.bag.length y.bc::row 63 1 y.vv y.vs.length y.vc::memsR 78 81 37 y.ms ++ (vrsR 39 y.vs ++ (L))):=St.mmBack [row 34 2 v_ps ps.length c_ps,row 3 1 v_ls ls.length c_ls,obj y.a 67 [.int .i64 ((y.n:Nat):Int),.slice y.A y.ln y.lc,y.bv,y.vv],row 53 16 y.bv y.bag.length y.bc,row 63 1 y.vv y.vs.length y.vc] hs50 hm46
 refine st_m (m_lit (n:=1) (ps:=[(0,.agg #[.int .u64 ((mm45.m.prom.N:Nat):Int),.int .i64 mm45.m.prom.P])]) (cs:=[.int .u64 ((mm45.m.prom.N:Nat):Int),.int .i64 mm45.m.prom.P]) Tryd.underlying70 inf34 (.cons (.tmp rfl rfl) Evp.nil) (by decide) (by decide) rfl rfl hs56) ?_
 rintro _ w58 ⟨g57,rfl,hs60⟩
 have hs61:=hs60.p1
 have hr69:kViewID.rep H11 mm45.m.prom [.int .u64 ((mm45.m.prom.N:Nat):Int),.int .i64 mm45.m.prom.P]:=⟨rfl,b53,⟨b54,b55⟩⟩
 refine st_m (m_appK (d:=kViewID) (ys:=[mm45.m.prom]) (news:=[.int .u64 ((mm45.m.prom.N:Nat):Int),.int .i64 mm45.m.prom.P]) Tryd.underlying70 inf34 rfl hs61 ok_ps hk_ps (.tmp rfl rfl) (.tmp rfl rfl) (Kn.rows_one hr69) rfl (hs61.at_ 1 rfl 0 rfl) (by have:([mm45.m.prom]:List GViewID).length = 1:=rfl; omega) (by decide)) ?_
 rintro v62 w63 ⟨cs64,ok65,hk66,hs67⟩
 have hn68:(ps ++ [mm45.m.prom]).length = ps.length + 1:=by simp
 refine st (v:=v62) (x_assign (.tmp rfl rfl)) ?_
 refine c_nil (n_then (c_region (st (v:=v_ls) (x_move (.tmp rfl hρ33)) ?_)))
 refine st (v:=.pointer (some ⟨y.a,0,none⟩)) (x_move (.tmp rfl hρ30)) ?_
 refine st (v:=.pointer (some ⟨y.a,0,none⟩)) (x_nilCheck (.tmp rfl rfl)) ?_
 refine st (v:=.pointer (some ⟨y.a,0 + 3,none⟩)) (fa67_3 (.tmp rfl rfl)) ?_
 refine st (v:=y.vv) (ld65 (.tmp rfl rfl) (hs67.cell 3 rfl (0 + 3) rfl)) ?_
 refine st (v:=.int .i64 ((p:Nat):Int)) (x_move (.tmp rfl hρ34)) ?_
 obtain ⟨g70,c71,hv72⟩:=oky.vok.pos (by omega)
 obtain ⟨e73,cs74,hx75,hr76,hsub77⟩:=Kn.rows_get (i:=p) oky.vhk (by omega)
 obtain ⟨rfl,ok78,hk79⟩:=hr76
 have hve_e73:=vxs_get hx75
 have hvl_e73:=congrArg List.length hve_e73
 change (y.g.views.getD _ []).length = _ at hvl_e73
 change y.g.views.getD _ [] = _ at hve_e73
 have hvb_e73:=gok_vl (hy.ok (by omega)) e73 (List.mem_of_getElem? hx75)
 refine st (v:=.pointer (some ⟨g70,(p * 1),none⟩)) (ixo65 (.tmp rfl hv72) rfl (i:=((p:Nat):Int)) (.tmp rfl rfl) (by omega) (by omega) (by omega)) ?_
 refine st (v:=e73.v) (ld63 (.tmp rfl rfl) ((hs67.rowAt 5 rfl hv72 (p * 1) hsub77).cell 0 rfl)) ?_
 obtain ⟨A80,c81,hv82,hc83⟩:=ok78.slice
 refine st (v:=.int .i64 ((e73.xs.length:Nat):Int)) (x_len (n:=e73.xs.length) Tryd.underlying63 (.tmp rfl hv82)) ?_
 refine st_m (m_lit (n:=1) (ps:=[(0,.int .i64 ((e73.xs.length:Nat):Int))]) (cs:=[.int .i64 ((e73.xs.length:Nat):Int)]) Tryd.underlying71 inf3 (.cons (.tmp rfl rfl) Evp.nil) (by decide) (by decide) rfl rfl hs67) ?_
 rintro _ w85 ⟨g84,rfl,hs87⟩
 have hs88:=hs87.p3
 have hr96:kI.rep H11 ((e73.xs.length:Nat):Int) [.int .i64 ((e73.xs.length:Nat):Int)]:=⟨rfl,(show IB ((e73.xs.length:Nat):Int) from ⟨by omega,by omega⟩)⟩
 refine st_m (m_appK (d:=kI) (ys:=[((e73.xs.length:Nat):Int)]) (news:=[.int .i64 ((e73.xs.length:Nat):Int)]) Tryd.underlying71 inf3 rfl hs88 ok_ls hk_ls (.tmp rfl rfl) (.tmp rfl rfl) (Kn.rows_one hr96) rfl (hs88.at_ 1 rfl 0 rfl) (by have:([((e73.xs.length:Nat):Int)]:List Int).length = 1:=rfl; omega) (by decide)) ?_
 rintro v89 w90 ⟨cs91,ok92,hk93,hs94⟩
 have hn95:(ls ++ [((e73.xs.length:Nat):Int)]).length = ls.length + 1:=by simp
 refine st (v:=v89) (x_assign (.tmp rfl rfl)) ?_
 refine c_nil (n_block (n_then (c_region (st (v:=.int .i64 ((p:Nat):Int)) (x_move (.tmp rfl hρ34)) ?_))))
 refine st (v:=.int .i64 (((p + 1):Nat):Int)) (x_add (k:=.i64) (a:=((p:Nat):Int)) (b:=1) (.tmp rfl rfl) .const ((w64 (by omega) (by omega)).trans (by omega))) ?_
 refine st (v:=.int .i64 (((p + 1):Nat):Int)) (x_assign (.tmp rfl rfl)) ?_
 refine c_nil ?_
 refine n_then ⟨_,_,rfl,?_,(p + 1),(ps ++ [mm45.m.prom]),v62,cs64,(ls ++ [((e73.xs.length:Nat):Int)]),v89,cs91,hρ29,hρ30,hρ31,rfl,rfl,rfl,ok65,hk66,ok92,hk93,(by omega),(rmap_snoc hps (by rw [gok_m hm46])),(rmap_snoc hls (by rw [hve_e73])),(by simp only [List.length_append,List.length_singleton]; omega),(by simp only [List.length_append,List.length_singleton]; omega),(((((((hs94.p1).drop.p2).drop.p4).p4).p4).p3).p4),rfl⟩
 omega
 have hp36:¬ ((((p:Nat):Int):Int) < ((y.n:Nat):Int)):=of_decide_eq_false hc36
 refine c_cond_f (t:=false) (.tmp rfl (cVb hc36)) rfl ?_
 refine c_exit (x_then (x_then (x_here (n_then (c_seq (c_region (st (v:=.pointer (some ⟨y.a,0,none⟩)) (x_move (.tmp rfl hρ30)) ?_)))))))
 refine st (v:=.slice A_l n_l c_l) (x_move (.tmp rfl hρ29)) ?_
 refine st (v:=.int .i64 ((i:Nat):Int)) (x_move (.tmp rfl hρ31)) ?_
 obtain ⟨e97,b98,o99,cs100,hx101,hA102,hr103,hat104⟩:=((h_l.mono hle6).mono hg12).get (i:=i) (by omega)
 obtain ⟨rfl,b105,b106,b107⟩:=hr103
 have hat104x:∀ {w:World} {L:List Res},St H11 w L → At w ⟨b98,o99 + i * 4,none⟩ [.int .u8 ((e97.Kind:Nat):Int),.int .u8 ((e97.I:Nat):Int),.int .u16 ((e97.Est:Nat):Int),.bool e97.Keep]:=fun h => hat104 h
 refine st (v:=.pointer (some ⟨b98,(o99 + i * 4),none⟩)) (ixo57 (.tmp rfl rfl) hA102 (i:=((i:Nat):Int)) (.tmp rfl rfl) (by omega) (by omega) (by omega)) ?_
 refine st (v:=.agg #[.int .u8 ((e97.Kind:Nat):Int),.int .u8 ((e97.I:Nat):Int),.int .u16 ((e97.Est:Nat):Int),.bool e97.Keep]) (ld62 (cs:=[.int .u8 ((e97.Kind:Nat):Int),.int .u8 ((e97.I:Nat):Int),.int .u16 ((e97.Est:Nat):Int),.bool e97.Keep]) (.tmp rfl rfl) ((hat104x hs35).sub 0 rfl) rfl) ?_
 have hs108:=hs35.p4
 have hs109:=hs108.p4
 have hs110:=hs109.p4
 have okg112:GR.ok y H11:=⟨oky.mok,oky.l,oky.bok,oky.bhk,oky.vok,oky.vhk⟩
 have hs111:St H11 _ (GR.res 67 53 63 39 78 81 37 y ++ (row 34 2 v_ps ps.length c_ps::row 3 1 v_ls ls.length c_ls::L)):=St.grpShut (x:=y) [row 34 2 v_ps ps.length c_ps,row 3 1 v_ls ls.length c_ls] hs110
 have hr113:kMove.rep H11 e97 [.int .u8 ((e97.Kind:Nat):Int),.int .u8 ((e97.I:Nat):Int),.int .u16 ((e97.Est:Nat):Int),.bool e97.Keep]:=⟨rfl,b105,b106,b107⟩
 refine st_c cb21 .func (evs2 (.tmp rfl rfl) (.tmp rfl rfl)) (move_spec hs111 (x:=y) okg112 e97 hr113 (hy.ok (by omega)) (by have h9:y.bag.length ≤ 14400:=hy.bagl (by omega); omega) (htab.mono (hle6.trans hg12))) ?_
 rintro e w114 ⟨H116,gr118,hle117,rfl,okg119,hga120,hgn121,hgg122,hs115⟩
 refine ⟨_,rfl,?_⟩
 have hs123:St H116 _ (obj gr118.a 67 [.int .i64 ((gr118.n:Nat):Int),.slice gr118.A gr118.ln gr118.lc,gr118.bv,gr118.vv]::row 53 16 gr118.bv gr118.bag.length gr118.bc::row 63 1 gr118.vv gr118.vs.length gr118.vc::row 34 2 v_ps ps.length c_ps::row 3 1 v_ls ls.length c_ls::memsR 78 81 37 gr118.ms ++ (vrsR 39 gr118.vs ++ (L))):=St.grpOpen [row 34 2 v_ps ps.length c_ps,row 3 1 v_ls ls.length c_ls] hs115
 refine c_nil (n_then (c_seq (c_region ?_)))
 have hy2:RunOk (i + 1) gr118.g:=by rw [hgg122]; exact hy.move (by omega) _
 have hn2:gr118.n = y.n:=hgn121
 have hpl2_gr118:=okg119.l.len
 have hms_gr118:=gok_ms (hy2.ok (by omega))
 have hvs_gr118:=gok_vs (hy2.ok (by omega))
 have hpl_gr118:(ptrs gr118.ms).length = gr118.ms.length:=by unfold ptrs; rw [List.length_map]
 have hpy:p = y.n:=by omega
 refine st (v:=.int .i64 0) (x_assign .const) ?_
 refine c_nil (n_then (c_block (c_loop (fun ρ w mm => ∃ (q:Nat),ρ 1 = .slice A_l n_l c_l∧ρ 5 = .pointer (some ⟨gr118.a,0,none⟩)∧ρ 6 = .int .i64 ((i:Nat):Int)∧ρ 7 = v_ps∧ρ 8 = v_ls∧ρ 10 = .int .i64 ((q:Nat):Int)∧(q ≤ y.n)∧St H116 w (row 34 2 v_ps ps.length c_ps::row 3 1 v_ls ls.length c_ls::obj gr118.a 67 [.int .i64 ((gr118.n:Nat):Int),.slice gr118.A gr118.ln gr118.lc,gr118.bv,gr118.vv]::row 53 16 gr118.bv gr118.bag.length gr118.bc::row 63 1 gr118.vv gr118.vs.length gr118.vc::memsR 78 81 37 gr118.ms ++ (vrsR 39 gr118.vs ++ (L)))∧mm = y.n - q) _ ⟨0,hρ29,(hρ30.trans (congrArg (fun z => Value.pointer (some ⟨z,0,none⟩)) hga120.symm)),hρ31,hρ32,hρ33,rfl,(by omega),(((((hs123.p2).p2).p2).p4).p4),rfl⟩ ?_)))
 rintro ρ w mm ⟨q,hρ125,hρ126,hρ127,hρ128,hρ129,hρ130,hq,hs131,rfl⟩
 refine c_seq (c_seq (c_region (st (v:=.int .i64 ((q:Nat):Int)) (x_move (.tmp rfl hρ130)) ?_)))
 refine st (v:=.pointer (some ⟨gr118.a,0,none⟩)) (x_move (.tmp rfl hρ126)) ?_
 refine st (v:=.pointer (some ⟨gr118.a,0,none⟩)) (x_nilCheck (.tmp rfl rfl)) ?_
 refine st (v:=.pointer (some ⟨gr118.a,0 + 0,none⟩)) (fa67_0 (.tmp rfl rfl)) ?_
 refine st (v:=.int .i64 ((gr118.n:Nat):Int)) (ld3 (.tmp rfl rfl) (hs131.cell 2 rfl (0 + 0) rfl)) ?_
 refine st (v:=.bool (decide ((((q:Nat):Int):Int) < ((gr118.n:Nat):Int)))) (x_lss (k:=.i64) (a:=((q:Nat):Int)) (b:=((gr118.n:Nat):Int)) (.tmp rfl rfl) (.tmp rfl rfl)) ?_
 refine c_nil (n_then ?_)
 rcases Bool.eq_false_or_eq_true (decide ((((q:Nat):Int):Int) < ((gr118.n:Nat):Int))) with hc132 | hc132
 have hp132:(((q:Nat):Int):Int) < ((gr118.n:Nat):Int):=of_decide_eq_true hc132
 refine c_cond_t (t:=true) (.tmp rfl (cVb hc132)) rfl ?_
 refine c_skip (n_then (c_seq (c_block (c_seq (c_seq (t_region (L:=row 34 2 v_ps ps.length c_ps::row 3 1 v_ls ls.length c_ls::obj gr118.a 67 [.int .i64 ((gr118.n:Nat):Int),.slice gr118.A gr118.ln gr118.lc,gr118.bv,gr118.vv]::row 53 16 gr118.bv gr118.bag.length gr118.bc::row 63 1 gr118.vv gr118.vs.length gr118.vc::memsR 78 81 37 gr118.ms ++ (vrsR 39 gr118.vs ++ (L))) (L':=row 34 2 v_ps ps.length c_ps::row 3 1 v_ls ls.length c_ls::obj gr118.a 67 [.int .i64 ((gr118.n:Nat):Int),.slice gr118.A gr118.ln gr118.lc,gr118.bv,gr118.vv]::row 53 16 gr118.bv gr118.bag.length gr118.bc::row 63 1 gr118.vv gr118.vs.length gr118.vc::L) (Z:=[12]) (F:=[0,1,2]) (pl:=(.q 0 (.q 1 (.q 2 (.q 3 (.q 4 (.q 5 (.q 6 (.q 8 (.q 9 (.q 10 (.q 11 (.e 7 (.e 12 (.q 13 .done))))))))))))))) mixed hs131 (fun u hu => (St.dropL [row 34 2 v_ps ps.length c_ps,row 3 1 v_ls ls.length c_ls,obj gr118.a 67 [.int .i64 ((gr118.n:Nat):Int),.slice gr118.A gr118.ln gr118.lc,gr118.bv,gr118.vv],row 53 16 gr118.bv gr118.bag.length gr118.bc,row 63 1 gr118.vv gr118.vs.length gr118.vc] (St.dropL [row 34 2 v_ps ps.length c_ps,row 3 1 v_ls ls.length c_ls,obj gr118.a 67 [.int .i64 ((gr118.n:Nat):Int),.slice gr118.A gr118.ln gr118.lc,gr118.bv,gr118.vv],row 53 16 gr118.bv gr118.bag.length gr118.bc,row 63 1 gr118.vv gr118.vs.length gr118.vc] hu))) (by kernel_rfl) ?_))))))
 intro w133 hs134
 have hA:AccAt y.g gr118.g q:=by rw [hgg122]; exact hy.acc (by omega) _ (show q < y.n by omega)
 refine t_fr (k:=0) (v:=.pointer (some ⟨gr118.a,0,none⟩)) rfl (fun w _ => (x_move (.tmp rfl hρ126))) ?_
 refine t_fr (k:=1) (v:=.pointer (some ⟨gr118.a,0,none⟩)) rfl (fun w _ => (x_nilCheck (.tmp rfl rfl))) ?_
 refine t_fr (k:=2) (v:=.pointer (some ⟨gr118.a,0 + 1,none⟩)) rfl (fun w _ => (fa67_1 (.tmp rfl rfl))) ?_
 refine t_st (k:=3) (v:=.slice gr118.A gr118.ln gr118.lc) rfl rfl (fun w hs => (ld64 (.tmp rfl rfl) (hs.cell 2 rfl (0 + 1) rfl))) ?_
 refine t_st (k:=4) (v:=.int .i64 ((q:Nat):Int)) rfl rfl (fun w hs => (x_move (.tmp rfl hρ130))) ?_
 obtain ⟨e135,b136,o137,cs138,hx139,hA140,hr141,hat142⟩:=okg119.l.get (i:=q) (by omega)
 obtain ⟨rfl⟩:=hr141
 have hat142x:∀ {w:World} {L:List Res},St H116 w L → At w ⟨b136,o137 + q * 1,none⟩ [.pointer (some ⟨e135,0,none⟩)]:=fun h => hat142 h
 obtain ⟨mm143,hm144,hg145⟩:=ptr_at hx139
 refine t_st (k:=5) (v:=.pointer (some ⟨b136,(o137 + q * 1),none⟩)) rfl rfl (fun w hs => (ixo64 (.tmp rfl rfl) hA140 (i:=((q:Nat):Int)) (.tmp rfl rfl) (by omega) (by omega) (by omega))) ?_
 refine t_st (k:=6) (v:=.pointer (some ⟨e135,0,none⟩)) rfl rfl (fun w hs => (ld23 (.tmp rfl rfl) ((hat142x hs).cell 0 rfl))) ?_
 refine t_st (k:=8) (v:=v_ps) rfl rfl (fun w hs => (x_move (.tmp rfl hρ128))) ?_
 refine t_st (k:=9) (v:=.int .i64 ((q:Nat):Int)) rfl rfl (fun w hs => (x_move (.tmp rfl hρ130))) ?_
 obtain ⟨g146,c147,hv148⟩:=ok_ps.pos (by omega)
 obtain ⟨e149,cs150,hx151,hr152,hsub153⟩:=Kn.rows_get (i:=q) (Kn.rows_mono hk_ps hle117) (by omega)
 obtain ⟨rfl,b154,⟨b155,b156⟩⟩:=hr152
 have hpe_e149:e149 = (y.g.m q).prom:=rmap_get hps hx151
 refine t_st (k:=10) (v:=.pointer (some ⟨g146,(q * 2),none⟩)) rfl rfl (fun w hs => (ixo70 (.tmp rfl hv148) rfl (i:=((q:Nat):Int)) (.tmp rfl rfl) (by omega) (by omega) (by omega))) ?_
 refine t_st (k:=11) (v:=.agg #[.int .u64 ((e149.N:Nat):Int),.int .i64 e149.P]) rfl rfl (fun w hs => (ld34 (cs:=[.int .u64 ((e149.N:Nat):Int),.int .i64 e149.P]) (.tmp rfl rfl) ((hs.rowAt 0 rfl hv148 (q * 2) hsub153).sub 0 rfl) rfl)) ?_
 refine t_eff (k:=7) rfl ?_
 have hs157:St H116 _ (MM.res 78 81 37 mm143 ++ (row 34 2 v_ps ps.length c_ps::row 3 1 v_ls ls.length c_ls::obj gr118.a 67 [.int .i64 ((gr118.n:Nat):Int),.slice gr118.A gr118.ln gr118.lc,gr118.bv,gr118.vv]::row 53 16 gr118.bv gr118.bag.length gr118.bc::row 63 1 gr118.vv gr118.vs.length gr118.vc::memsR 78 81 37 (gr118.ms.eraseIdx q) ++ (vrsR 39 gr118.vs ++ (L)))):=St.mmOut [row 34 2 v_ps ps.length c_ps,row 3 1 v_ls ls.length c_ls,obj gr118.a 67 [.int .i64 ((gr118.n:Nat):Int),.slice gr118.A gr118.ln gr118.lc,gr118.bv,gr118.vv],row 53 16 gr118.bv gr118.bag.length gr118.bc,row 63 1 gr118.vv gr118.vs.length gr118.vc] hs134 hm144
 refine st_c cb19 .func (evs1 (.tmp rfl (congrArg (fun z => Value.pointer (some ⟨z,0,none⟩)) hg145.symm))) (prom_mm hs157 (x:=mm143) (MsOk.get okg119.mok hm144) ) ?_
 rintro e w158 ⟨cs160,rfl,hr161,hs159⟩
 obtain ⟨rfl,b162,⟨b163,b164⟩⟩:=hr161
 refine ⟨_,rfl,?_⟩
 have hs165:St H116 _ (row 34 2 v_ps ps.length c_ps::row 3 1 v_ls ls.length c_ls::obj gr118.a 67 [.int .i64 ((gr118.n:Nat):Int),.slice gr118.A gr118.ln gr118.lc,gr118.bv,gr118.vv]::row 53 16 gr118.bv gr118.bag.length gr118.bc::row 63 1 gr118.vv gr118.vs.length gr118.vc::memsR 78 81 37 gr118.ms ++ (vrsR 39 gr118.vs ++ (L))):=St.mmBack [row 34 2 v_ps ps.length c_ps,row 3 1 v_ls ls.length c_ls,obj gr118.a 67 [.int .i64 ((gr118.n:Nat):Int),.slice gr118.A gr118.ln gr118.lc,gr118.bv,gr118.vv],row 53 16 gr118.bv gr118.bag.length gr118.bc,row 63 1 gr118.vv gr118.vs.length gr118.vc] hs159 hm144
 refine t_on (S':=fun u => St H116 u (row 34 2 v_ps ps.length c_ps::row 3 1 v_ls ls.length c_ls::obj gr118.a 67 [.int .i64 ((gr118.n:Nat):Int),.slice gr118.A gr118.ln gr118.lc,gr118.bv,gr118.vv]::row 53 16 gr118.bv gr118.bag.length gr118.bc::row 63 1 gr118.vv gr118.vs.length gr118.vc::L)) (fun u hu => hu) (St.dropL [row 34 2 v_ps ps.length c_ps,row 3 1 v_ls ls.length c_ls,obj gr118.a 67 [.int .i64 ((gr118.n:Nat):Int),.slice gr118.A gr118.ln gr118.lc,gr118.bv,gr118.vv],row 53 16 gr118.bv gr118.bag.length gr118.bc,row 63 1 gr118.vv gr118.vs.length gr118.vc] (St.dropL [row 34 2 v_ps ps.length c_ps,row 3 1 v_ls ls.length c_ls,obj gr118.a 67 [.int .i64 ((gr118.n:Nat):Int),.slice gr118.A gr118.ln gr118.lc,gr118.bv,gr118.vv],row 53 16 gr118.bv gr118.bag.length gr118.bc,row 63 1 gr118.vv gr118.vs.length gr118.vc] hs165)) ?_
 refine t_eff (k:=12) rfl ?_
 refine st_c cb18 .func (evs2 (.tmp rfl rfl) (.tmp rfl rfl)) (rcompare_spec hs165 mm143.m.prom.N mm143.m.prom.P e149.N e149.P) ?_
 rintro e w166 ⟨rfl,hs167⟩
 refine ⟨_,rfl,?_⟩
 refine t_new (S':=fun u => St H116 u (row 34 2 v_ps ps.length c_ps::row 3 1 v_ls ls.length c_ls::obj gr118.a 67 [.int .i64 ((gr118.n:Nat):Int),.slice gr118.A gr118.ln gr118.lc,gr118.bv,gr118.vv]::row 53 16 gr118.bv gr118.bag.length gr118.bc::row 63 1 gr118.vv gr118.vs.length gr118.vc::L)) rfl (St.dropL [row 34 2 v_ps ps.length c_ps,row 3 1 v_ls ls.length c_ls,obj gr118.a 67 [.int .i64 ((gr118.n:Nat):Int),.slice gr118.A gr118.ln gr118.lc,gr118.bv,gr118.vv],row 53 16 gr118.bv gr118.bag.length gr118.bc,row 63 1 gr118.vv gr118.vs.length gr118.vc] (St.dropL [row 34 2 v_ps ps.length c_ps,row 3 1 v_ls ls.length c_ls,obj gr118.a 67 [.int .i64 ((gr118.n:Nat):Int),.slice gr118.A gr118.ln gr118.lc,gr118.bv,gr118.vv],row 53 16 gr118.bv gr118.bag.length gr118.bc,row 63 1 gr118.vv gr118.vs.length gr118.vc] hs167)) ?_
 refine t_st (k:=13) (v:=.bool (decide (((cmpV mm143.m.prom.N mm143.m.prom.P e149.N e149.P):Int) < 0))) rfl rfl (fun w hs => (x_lss (k:=.i64) (a:=(cmpV mm143.m.prom.N mm143.m.prom.P e149.N e149.P)) (b:=0) (.tmp rfl rfl) .const)) ?_
 refine t_nil ?_
 refine n_then ?_
 have hc168:(decide (((cmpV mm143.m.prom.N mm143.m.prom.P e149.N e149.P):Int) < 0)) = false:=(decide_eq_false (cmp_ge (by have h9:=hA.1; rw [gok_m hm144] at h9; rw [hpe_e149]; exact h9)))
 have hp168:¬ (((cmpV mm143.m.prom.N mm143.m.prom.P e149.N e149.P):Int) < 0):=of_decide_eq_false hc168
 refine c_cond_f (t:=false) (.tmp rfl (cVb hc168)) rfl ?_
 refine c_skip (n_then (c_seq (c_seq (q_region mixed hs167 (by kernel_rfl) ?_))))
 refine q_st (v:=.pointer (some ⟨gr118.a,0,none⟩)) (fun w hs => (x_move (.tmp rfl hρ126))) ?_
 refine q_st (v:=.pointer (some ⟨gr118.a,0,none⟩)) (fun w hs => (x_nilCheck (.tmp rfl rfl))) ?_
 refine q_st (v:=.pointer (some ⟨gr118.a,0 + 3,none⟩)) (fun w hs => (fa67_3 (.tmp rfl rfl))) ?_
 refine q_st (v:=gr118.vv) (fun w hs => (ld65 (.tmp rfl rfl) (hs.cell 2 rfl (0 + 3) rfl))) ?_
 refine q_st (v:=.int .i64 ((q:Nat):Int)) (fun w hs => (x_move (.tmp rfl hρ130))) ?_
 obtain ⟨g169,c170,hv171⟩:=okg119.vok.pos (by omega)
 obtain ⟨e172,cs173,hx174,hr175,hsub176⟩:=Kn.rows_get (i:=q) okg119.vhk (by omega)
 obtain ⟨rfl,ok177,hk178⟩:=hr175
 have hve_e172:=vxs_get hx174
 have hvl_e172:=congrArg List.length hve_e172
 change (gr118.g.views.getD _ []).length = _ at hvl_e172
 change gr118.g.views.getD _ [] = _ at hve_e172
 have hvb_e172:=gok_vl (hy2.ok (by omega)) e172 (List.mem_of_getElem? hx174)
 refine q_st (v:=.pointer (some ⟨g169,(q * 1),none⟩)) (fun w hs => (ixo65 (.tmp rfl hv171) rfl (i:=((q:Nat):Int)) (.tmp rfl rfl) (by omega) (by omega) (by omega))) ?_
 refine q_st (v:=e172.v) (fun w hs => (ld63 (.tmp rfl rfl) ((hs.rowAt 4 rfl hv171 (q * 1) hsub176).cell 0 rfl))) ?_
 obtain ⟨A179,c180,hv181,hc182⟩:=ok177.slice
 refine q_st (v:=.int .i64 ((e172.xs.length:Nat):Int)) (fun w hs => (x_len (n:=e172.xs.length) Tryd.underlying63 (.tmp rfl hv181))) ?_
 refine q_st (v:=v_ls) (fun w hs => (x_move (.tmp rfl hρ129))) ?_
 refine q_st (v:=.int .i64 ((q:Nat):Int)) (fun w hs => (x_move (.tmp rfl hρ130))) ?_
 obtain ⟨g183,c184,hv185⟩:=ok_ls.pos (by omega)
 obtain ⟨e186,cs187,hx188,hr189,hsub190⟩:=Kn.rows_get (i:=q) (Kn.rows_mono hk_ls hle117) (by omega)
 obtain ⟨rfl,⟨b191,b192⟩⟩:=hr189
 have hle_e186:e186 = ((y.g.views.getD q []).length:Int):=rmap_get (f:=fun j => ((y.g.views.getD j []).length:Int)) hls hx188
 refine q_st (v:=.pointer (some ⟨g183,(q * 1),none⟩)) (fun w hs => (ixo71 (.tmp rfl hv185) rfl (i:=((q:Nat):Int)) (.tmp rfl rfl) (by omega) (by omega) (by omega))) ?_
 refine q_st (v:=.int .i64 e186) (fun w hs => (ld3 (.tmp rfl rfl) ((hs.rowAt 1 rfl hv185 (q * 1) hsub190).cell 0 rfl))) ?_
 refine q_st (v:=.bool (decide ((((e172.xs.length:Nat):Int):Int) = e186))) (fun w hs => (x_eql (k:=.i64) (a:=((e172.xs.length:Nat):Int)) (b:=e186) (.tmp rfl rfl) (.tmp rfl rfl))) ?_
 refine q_nil ?_
 intro w hs193
 refine n_then ?_
 rcases Bool.eq_false_or_eq_true (decide ((((e172.xs.length:Nat):Int):Int) = e186)) with hc194 | hc194
 have hp194:(((e172.xs.length:Nat):Int):Int) = e186:=of_decide_eq_true hc194
 refine c_cond_t (t:=true) (.tmp rfl (cVb hc194)) rfl ?_
 refine c_exit (x_then (x_here (n_then (c_region (st (v:=.int .i64 ((q:Nat):Int)) (x_move (.tmp rfl hρ130)) ?_)))))
 refine st (v:=.int .i64 (((q + 1):Nat):Int)) (x_add (k:=.i64) (a:=((q:Nat):Int)) (b:=1) (.tmp rfl rfl) .const ((w64 (by omega) (by omega)).trans (by omega))) ?_
 refine st (v:=.int .i64 (((q + 1):Nat):Int)) (x_assign (.tmp rfl rfl)) ?_
 refine c_nil ?_
 refine n_then ⟨_,_,rfl,?_,(q + 1),hρ125,hρ126,hρ127,hρ128,hρ129,rfl,(by omega),(((((hs193.p4).p4).p4).p4).p4),rfl⟩
 omega
 have hp194:¬ ((((e172.xs.length:Nat):Int):Int) = e186):=of_decide_eq_false hc194
 refine c_cond_f (t:=false) (.tmp rfl (cVb hc194)) rfl ?_
 refine c_skip (n_then (c_seq (u_region (L:=row 34 2 v_ps ps.length c_ps::row 3 1 v_ls ls.length c_ls::obj gr118.a 67 [.int .i64 ((gr118.n:Nat):Int),.slice gr118.A gr118.ln gr118.lc,gr118.bv,gr118.vv]::row 53 16 gr118.bv gr118.bag.length gr118.bc::row 63 1 gr118.vv gr118.vs.length gr118.vc::memsR 78 81 37 gr118.ms ++ (vrsR 39 gr118.vs ++ (L))) (L':=row 34 2 v_ps ps.length c_ps::row 3 1 v_ls ls.length c_ls::obj gr118.a 67 [.int .i64 ((gr118.n:Nat):Int),.slice gr118.A gr118.ln gr118.lc,gr118.bv,gr118.vv]::row 53 16 gr118.bv gr118.bag.length gr118.bc::row 63 1 gr118.vv gr118.vs.length gr118.vc::memsR 78 81 37 gr118.ms ++ (vrsR 39 gr118.vs ++ (L))) (Z:=[19]) (F:=[]) (Lw:=row 34 2 v_ps ps.length c_ps::row 3 1 v_ls ls.length c_ls::obj gr118.a 67 [.int .i64 ((gr118.n:Nat):Int),.slice gr118.A gr118.ln gr118.lc,gr118.bv,gr118.vv]::row 53 16 gr118.bv gr118.bag.length gr118.bc::row 63 1 gr118.vv gr118.vs.length gr118.vc::memsR 78 81 37 gr118.ms ++ (vrsR 39 gr118.vs ++ (L))) (pl:=(.q 0 (.q 1 (.q 2 (.q 3 (.q 4 (.q 5 (.q 6 (.q 7 (.q 8 (.q 9 (.q 10 (.q 11 (.q 12 (.q 13 (.q 14 (.q 15 (.q 16 (.q 17 (.e 18 (.e 19 .done))))))))))))))))))))) mixed hs193 (fun u hu => hu) (fun u hu => hu) (by kernel_rfl) ?_)))
 intro w195 hs196
 obtain ⟨v0,hv1,hv2,hv3,hv4⟩:=hA.2.resolve_left (fun h9 => by have h8:=congrArg List.length h9; omega); have hvl0:=congrArg List.length hv1; rw [List.length_append,List.length_singleton] at hvl0
 refine u_st (k:=0) (v:=.pointer (some ⟨gr118.a,0,none⟩)) rfl rfl (fun w hs => (x_move (.tmp rfl hρ126))) ?_
 refine u_st (k:=1) (v:=.pointer (some ⟨gr118.a,0,none⟩)) rfl rfl (fun w hs => (x_nilCheck (.tmp rfl rfl))) ?_
 refine u_st (k:=2) (v:=.pointer (some ⟨gr118.a,0 + 3,none⟩)) rfl rfl (fun w hs => (fa67_3 (.tmp rfl rfl))) ?_
 refine u_st (k:=3) (v:=gr118.vv) rfl rfl (fun w hs => (ld65 (.tmp rfl rfl) (hs.cell 2 rfl (0 + 3) rfl))) ?_
 refine u_st (k:=4) (v:=.int .i64 ((q:Nat):Int)) rfl rfl (fun w hs => (x_move (.tmp rfl hρ130))) ?_
 obtain ⟨g197,c198,hv199⟩:=okg119.vok.pos (by omega)
 refine u_st (k:=5) (v:=.pointer (some ⟨g197,(q * 1),none⟩)) rfl rfl (fun w hs => (ixo65 (.tmp rfl hv199) rfl (i:=((q:Nat):Int)) (.tmp rfl rfl) (by omega) (by omega) (by omega))) ?_
 refine u_st (k:=6) (v:=e172.v) rfl rfl (fun w hs => (ld63 (.tmp rfl rfl) ((hs.rowAt 4 rfl hv199 (q * 1) hsub176).cell 0 rfl))) ?_
 refine u_st (k:=7) (v:=.pointer (some ⟨gr118.a,0,none⟩)) rfl rfl (fun w hs => (x_move (.tmp rfl hρ126))) ?_
 refine u_st (k:=8) (v:=.pointer (some ⟨gr118.a,0,none⟩)) rfl rfl (fun w hs => (x_nilCheck (.tmp rfl rfl))) ?_
 refine u_st (k:=9) (v:=.pointer (some ⟨gr118.a,0 + 3,none⟩)) rfl rfl (fun w hs => (fa67_3 (.tmp rfl rfl))) ?_
 refine u_st (k:=10) (v:=gr118.vv) rfl rfl (fun w hs => (ld65 (.tmp rfl rfl) (hs.cell 2 rfl (0 + 3) rfl))) ?_
 refine u_st (k:=11) (v:=.int .i64 ((q:Nat):Int)) rfl rfl (fun w hs => (x_move (.tmp rfl hρ130))) ?_
 obtain ⟨g200,c201,hv202⟩:=okg119.vok.pos (by omega)
 refine u_st (k:=12) (v:=.pointer (some ⟨g200,(q * 1),none⟩)) rfl rfl (fun w hs => (ixo65 (.tmp rfl hv202) rfl (i:=((q:Nat):Int)) (.tmp rfl rfl) (by omega) (by omega) (by omega))) ?_
 refine u_st (k:=13) (v:=e172.v) rfl rfl (fun w hs => (ld63 (.tmp rfl rfl) ((hs.rowAt 4 rfl hv202 (q * 1) hsub176).cell 0 rfl))) ?_
 obtain ⟨A203,c204,hv205,hc206⟩:=ok177.slice
 refine u_st (k:=14) (v:=.int .i64 ((e172.xs.length:Nat):Int)) rfl rfl (fun w hs => (x_len (n:=e172.xs.length) Tryd.underlying63 (.tmp rfl hv205))) ?_
 refine u_st (k:=15) (v:=.int .i64 (((e172.xs.length:Nat):Int) - 1)) rfl rfl (fun w hs => (x_sub (k:=.i64) (a:=((e172.xs.length:Nat):Int)) (b:=1) (.tmp rfl rfl) .const (w64 (by omega) (by omega)))) ?_
 obtain ⟨g207,c208,hv209⟩:=ok177.pos (by omega)
 obtain ⟨e210,cs211,hx212,hr213,hsub214⟩:=Kn.rows_get (i:=(((e172.xs.length:Nat):Int) - 1).toNat) hk178 (by omega)
 obtain ⟨rfl,b215,⟨b216,b217⟩,b218⟩:=hr213
 have hev_e210:e210 = v0:=last_is (hve_e172.symm.trans hv1) hx212 (by omega)
 refine u_st (k:=16) (v:=.pointer (some ⟨g207,(((((e172.xs.length:Nat):Int) - 1).toNat) * 3),none⟩)) rfl rfl (fun w hs => (ixo63 (.tmp rfl hv209) rfl (i:=(((e172.xs.length:Nat):Int) - 1)) (.tmp rfl rfl) (by omega) (by omega) (by omega))) ?_
 refine u_st (k:=17) (v:=.agg #[.int .u64 ((e210.ID.N:Nat):Int),.int .i64 e210.ID.P,.int .u16 ((e210.Set:Nat):Int)]) rfl rfl (fun w hs => (ld39 (cs:=[.int .u64 ((e210.ID.N:Nat):Int),.int .i64 e210.ID.P,.int .u16 ((e210.Set:Nat):Int)]) (.tmp rfl rfl) (((St.vrOut (TV:=39) [row 34 2 v_ps ps.length c_ps,row 3 1 v_ls ls.length c_ls,obj gr118.a 67 [.int .i64 ((gr118.n:Nat):Int),.slice gr118.A gr118.ln gr118.lc,gr118.bv,gr118.vv],row 53 16 gr118.bv gr118.bag.length gr118.bc,row 63 1 gr118.vv gr118.vs.length gr118.vc] hs hx174).rowAt 0 rfl hv209 (((((e172.xs.length:Nat):Int) - 1).toNat) * 3) hsub214).sub 0 rfl) rfl)) ?_
 refine u_eff (k:=18) rfl ?_
 refine st_m (al39 (cs:=[.int .u64 0,.int .i64 0,.int .u16 0]) hs196 rfl) ?_
 rintro _ w220 ⟨g219,rfl,hs222⟩
 refine u_on (S':=fun u => St H116 u (obj g219 39 [.int .u64 0,.int .i64 0,.int .u16 0]::row 34 2 v_ps ps.length c_ps::row 3 1 v_ls ls.length c_ls::obj gr118.a 67 [.int .i64 ((gr118.n:Nat):Int),.slice gr118.A gr118.ln gr118.lc,gr118.bv,gr118.vv]::row 53 16 gr118.bv gr118.bag.length gr118.bc::row 63 1 gr118.vv gr118.vs.length gr118.vc::memsR 78 81 37 gr118.ms ++ (vrsR 39 gr118.vs ++ (L)))) (fun u hu => hu.drop) (fun u hu => hu.drop) hs222 ?_
 refine u_eff (k:=19) rfl ?_
 refine st_m0 (sto39 (cs':=[.int .u64 ((e210.ID.N:Nat):Int),.int .i64 e210.ID.P,.int .u16 ((e210.Set:Nat):Int)]) (i:=0) hs222 (v:=.agg #[.int .u64 ((e210.ID.N:Nat):Int),.int .i64 e210.ID.P,.int .u16 ((e210.Set:Nat):Int)]) (.tmp rfl rfl) (.tmp rfl rfl) rfl (Nat.le_of_ble_eq_true rfl) (oneA rfl) rfl) ?_
 rintro w223 hs225
 refine u_new (S':=fun u => St H116 u (obj g219 39 (clView e210)::row 34 2 v_ps ps.length c_ps::row 3 1 v_ls ls.length c_ls::obj gr118.a 67 [.int .i64 ((gr118.n:Nat):Int),.slice gr118.A gr118.ln gr118.lc,gr118.bv,gr118.vv]::row 53 16 gr118.bv gr118.bag.length gr118.bc::row 63 1 gr118.vv gr118.vs.length gr118.vc::memsR 78 81 37 gr118.ms ++ (vrsR 39 gr118.vs ++ (L)))) rfl (fun u hu => hu.drop) hs225 ?_
 refine u_nil ?_
 refine n_then (c_seq (t_region (L:=obj g219 39 (clView e210)::row 34 2 v_ps ps.length c_ps::row 3 1 v_ls ls.length c_ls::obj gr118.a 67 [.int .i64 ((gr118.n:Nat):Int),.slice gr118.A gr118.ln gr118.lc,gr118.bv,gr118.vv]::row 53 16 gr118.bv gr118.bag.length gr118.bc::row 63 1 gr118.vv gr118.vs.length gr118.vc::memsR 78 81 37 gr118.ms ++ (vrsR 39 gr118.vs ++ (L))) (L':=obj g219 39 (clView e210)::row 34 2 v_ps ps.length c_ps::row 3 1 v_ls ls.length c_ls::obj gr118.a 67 [.int .i64 ((gr118.n:Nat):Int),.slice gr118.A gr118.ln gr118.lc,gr118.bv,gr118.vv]::row 53 16 gr118.bv gr118.bag.length gr118.bc::row 63 1 gr118.vv gr118.vs.length gr118.vc::L) (Z:=[]) (F:=[]) (pl:=(.q 0 (.q 1 (.q 2 (.q 3 (.q 4 (.q 5 (.q 6 (.q 7 (.q 8 (.e 9 (.q 10 (.q 11 (.q 12 (.q 13 (.q 14 (.q 15 (.q 16 (.q 17 (.q 18 (.e 19 (.q 20 (.q 21 (.q 22 (.q 23 (.q 24 (.q 25 (.q 26 (.q 27 (.q 28 (.q 29 (.q 30 (.q 31 (.q 32 (.q 33 (.q 34 (.q 35 (.q 36 (.q 37 .done))))))))))))))))))))))))))))))))))))))) mixed hs225 (fun u hu => (St.dropL [obj g219 39 (clView e210),row 34 2 v_ps ps.length c_ps,row 3 1 v_ls ls.length c_ls,obj gr118.a 67 [.int .i64 ((gr118.n:Nat):Int),.slice gr118.A gr118.ln gr118.lc,gr118.bv,gr118.vv],row 53 16 gr118.bv gr118.bag.length gr118.bc,row 63 1 gr118.vv gr118.vs.length gr118.vc] (St.dropL [obj g219 39 (clView e210),row 34 2 v_ps ps.length c_ps,row 3 1 v_ls ls.length c_ls,obj gr118.a 67 [.int .i64 ((gr118.n:Nat):Int),.slice gr118.A gr118.ln gr118.lc,gr118.bv,gr118.vv],row 53 16 gr118.bv gr118.bag.length gr118.bc,row 63 1 gr118.vv gr118.vs.length gr118.vc] hu))) (by kernel_rfl) ?_))
 intro w226 hs227
 refine t_st (k:=0) (v:=.pointer (some ⟨g219,0 + 0,none⟩)) rfl rfl (fun w hs => (fa39_0 (.tmp rfl rfl))) ?_
 refine t_st (k:=1) (v:=.agg #[.int .u64 ((e210.ID.N:Nat):Int),.int .i64 e210.ID.P]) rfl rfl (fun w hs => (ld34 (cs:=[.int .u64 ((e210.ID.N:Nat):Int),.int .i64 e210.ID.P]) (.tmp rfl rfl) (hs.at_ 0 rfl (0 + 0) rfl) rfl)) ?_
 refine t_st (k:=2) (v:=.pointer (some ⟨gr118.a,0,none⟩)) rfl rfl (fun w hs => (x_move (.tmp rfl hρ126))) ?_
 refine t_st (k:=3) (v:=.pointer (some ⟨gr118.a,0,none⟩)) rfl rfl (fun w hs => (x_nilCheck (.tmp rfl rfl))) ?_
 refine t_st (k:=4) (v:=.pointer (some ⟨gr118.a,0 + 1,none⟩)) rfl rfl (fun w hs => (fa67_1 (.tmp rfl rfl))) ?_
 refine t_st (k:=5) (v:=.slice gr118.A gr118.ln gr118.lc) rfl rfl (fun w hs => (ld64 (.tmp rfl rfl) (hs.cell 3 rfl (0 + 1) rfl))) ?_
 refine t_st (k:=6) (v:=.int .i64 ((q:Nat):Int)) rfl rfl (fun w hs => (x_move (.tmp rfl hρ130))) ?_
 refine t_st (k:=7) (v:=.pointer (some ⟨b136,(o137 + q * 1),none⟩)) rfl rfl (fun w hs => (ixo64 (.tmp rfl rfl) hA140 (i:=((q:Nat):Int)) (.tmp rfl rfl) (by omega) (by omega) (by omega))) ?_
 refine t_st (k:=8) (v:=.pointer (some ⟨e135,0,none⟩)) rfl rfl (fun w hs => (ld23 (.tmp rfl rfl) ((hat142x hs).cell 0 rfl))) ?_
 refine t_eff (k:=9) rfl ?_
 have hs228:St H116 _ (MM.res 78 81 37 mm143 ++ (obj g219 39 (clView e210)::row 34 2 v_ps ps.length c_ps::row 3 1 v_ls ls.length c_ls::obj gr118.a 67 [.int .i64 ((gr118.n:Nat):Int),.slice gr118.A gr118.ln gr118.lc,gr118.bv,gr118.vv]::row 53 16 gr118.bv gr118.bag.length gr118.bc::row 63 1 gr118.vv gr118.vs.length gr118.vc::memsR 78 81 37 (gr118.ms.eraseIdx q) ++ (vrsR 39 gr118.vs ++ (L)))):=St.mmOut [obj g219 39 (clView e210),row 34 2 v_ps ps.length c_ps,row 3 1 v_ls ls.length c_ls,obj gr118.a 67 [.int .i64 ((gr118.n:Nat):Int),.slice gr118.A gr118.ln gr118.lc,gr118.bv,gr118.vv],row 53 16 gr118.bv gr118.bag.length gr118.bc,row 63 1 gr118.vv gr118.vs.length gr118.vc] hs227 hm144
 refine st_c cb19 .func (evs1 (.tmp rfl (congrArg (fun z => Value.pointer (some ⟨z,0,none⟩)) hg145.symm))) (prom_mm hs228 (x:=mm143) (MsOk.get okg119.mok hm144) ) ?_
 rintro e w229 ⟨cs231,rfl,hr232,hs230⟩
 obtain ⟨rfl,b233,⟨b234,b235⟩⟩:=hr232
 refine ⟨_,rfl,?_⟩
 have hs236:St H116 _ (obj g219 39 (clView e210)::row 34 2 v_ps ps.length c_ps::row 3 1 v_ls ls.length c_ls::obj gr118.a 67 [.int .i64 ((gr118.n:Nat):Int),.slice gr118.A gr118.ln gr118.lc,gr118.bv,gr118.vv]::row 53 16 gr118.bv gr118.bag.length gr118.bc::row 63 1 gr118.vv gr118.vs.length gr118.vc::memsR 78 81 37 gr118.ms ++ (vrsR 39 gr118.vs ++ (L))):=St.mmBack [obj g219 39 (clView e210),row 34 2 v_ps ps.length c_ps,row 3 1 v_ls ls.length c_ls,obj gr118.a 67 [.int .i64 ((gr118.n:Nat):Int),.slice gr118.A gr118.ln gr118.lc,gr118.bv,gr118.vv],row 53 16 gr118.bv gr118.bag.length gr118.bc,row 63 1 gr118.vv gr118.vs.length gr118.vc] hs230 hm144
 refine t_on (S':=fun u => St H116 u (obj g219 39 (clView e210)::row 34 2 v_ps ps.length c_ps::row 3 1 v_ls ls.length c_ls::obj gr118.a 67 [.int .i64 ((gr118.n:Nat):Int),.slice gr118.A gr118.ln gr118.lc,gr118.bv,gr118.vv]::row 53 16 gr118.bv gr118.bag.length gr118.bc::row 63 1 gr118.vv gr118.vs.length gr118.vc::L)) (fun u hu => hu) (St.dropL [obj g219 39 (clView e210),row 34 2 v_ps ps.length c_ps,row 3 1 v_ls ls.length c_ls,obj gr118.a 67 [.int .i64 ((gr118.n:Nat):Int),.slice gr118.A gr118.ln gr118.lc,gr118.bv,gr118.vv],row 53 16 gr118.bv gr118.bag.length gr118.bc,row 63 1 gr118.vv gr118.vs.length gr118.vc] (St.dropL [obj g219 39 (clView e210),row 34 2 v_ps ps.length c_ps,row 3 1 v_ls ls.length c_ls,obj gr118.a 67 [.int .i64 ((gr118.n:Nat):Int),.slice gr118.A gr118.ln gr118.lc,gr118.bv,gr118.vv],row 53 16 gr118.bv gr118.bag.length gr118.bc,row 63 1 gr118.vv gr118.vs.length gr118.vc] hs236)) ?_
 refine t_st (k:=10) (v:=.bool (!((((e210.ID.N:Nat):Int) == ((mm143.m.prom.N:Nat):Int)) && ((e210.ID.P == mm143.m.prom.P) && true)))) rfl rfl (fun w hs => (x_neqA eqg34 (.tmp rfl rfl) (.tmp rfl rfl) (fun d => eqs34 (d + 98) _ ((e210.ID.N:Nat):Int) ((mm143.m.prom.N:Nat):Int) e210.ID.P mm143.m.prom.P))) ?_
 refine t_st (k:=11) (v:=.bool (!(decide (e210.ID = mm143.m.prom)))) rfl rfl (fun w hs => (x_move (.tmp rfl (congrArg (fun z => Value.bool (!z)) (GViewID.beq_dec e210.ID mm143.m.prom))))) ?_
 have hc237:(decide (e210.ID = mm143.m.prom)) = true:=(decide_eq_true (by have h9:=hv2; rw [gok_m hm144] at h9; rw [hev_e210]; exact h9))
 have hp237:e210.ID = mm143.m.prom:=of_decide_eq_true hc237
 refine t_yes (k:=12) (v:=.pointer (some ⟨gr118.a,0,none⟩)) rfl rfl (yl (dj:=131) (b:=false) rfl rfl (cVb (by rw [hc237]; rfl))) (fun w hs => (x_move (.tmp rfl hρ126))) ?_
 refine t_yes (k:=13) (v:=.pointer (some ⟨gr118.a,0,none⟩)) rfl rfl (yl (dj:=131) (b:=false) rfl rfl (cVb (by rw [hc237]; rfl))) (fun w hs => (x_nilCheck (.tmp rfl rfl))) ?_
 refine t_yes (k:=14) (v:=.pointer (some ⟨gr118.a,0 + 1,none⟩)) rfl rfl (yl (dj:=131) (b:=false) rfl rfl (cVb (by rw [hc237]; rfl))) (fun w hs => (fa67_1 (.tmp rfl rfl))) ?_
 refine t_yes (k:=15) (v:=.slice gr118.A gr118.ln gr118.lc) rfl rfl (yl (dj:=131) (b:=false) rfl rfl (cVb (by rw [hc237]; rfl))) (fun w hs => (ld64 (.tmp rfl rfl) (hs.cell 3 rfl (0 + 1) rfl))) ?_
 refine t_yes (k:=16) (v:=.int .i64 ((q:Nat):Int)) rfl rfl (yl (dj:=131) (b:=false) rfl rfl (cVb (by rw [hc237]; rfl))) (fun w hs => (x_move (.tmp rfl hρ130))) ?_
 refine t_yes (k:=17) (v:=.pointer (some ⟨b136,(o137 + q * 1),none⟩)) rfl rfl (yl (dj:=131) (b:=false) rfl rfl (cVb (by rw [hc237]; rfl))) (fun w hs => (ixo64 (.tmp rfl rfl) hA140 (i:=((q:Nat):Int)) (.tmp rfl rfl) (by omega) (by omega) (by omega))) ?_
 refine t_yes (k:=18) (v:=.pointer (some ⟨e135,0,none⟩)) rfl rfl (yl (dj:=131) (b:=false) rfl rfl (cVb (by rw [hc237]; rfl))) (fun w hs => (ld23 (.tmp rfl rfl) ((hat142x hs).cell 0 rfl))) ?_
 refine t_eff (k:=19) rfl ?_
 refine g_yes (yl (dj:=131) (b:=false) rfl rfl (cVb (by rw [hc237]; rfl))) ?_
 have hs238:St H116 _ (MM.res 78 81 37 mm143 ++ (obj g219 39 (clView e210)::row 34 2 v_ps ps.length c_ps::row 3 1 v_ls ls.length c_ls::obj gr118.a 67 [.int .i64 ((gr118.n:Nat):Int),.slice gr118.A gr118.ln gr118.lc,gr118.bv,gr118.vv]::row 53 16 gr118.bv gr118.bag.length gr118.bc::row 63 1 gr118.vv gr118.vs.length gr118.vc::memsR 78 81 37 (gr118.ms.eraseIdx q) ++ (vrsR 39 gr118.vs ++ (L)))):=St.mmOut [obj g219 39 (clView e210),row 34 2 v_ps ps.length c_ps,row 3 1 v_ls ls.length c_ls,obj gr118.a 67 [.int .i64 ((gr118.n:Nat):Int),.slice gr118.A gr118.ln gr118.lc,gr118.bv,gr118.vv],row 53 16 gr118.bv gr118.bag.length gr118.bc,row 63 1 gr118.vv gr118.vs.length gr118.vc] hs236 hm144
 refine st_c cb15 .func (evs1 (.tmp rfl (congrArg (fun z => Value.pointer (some ⟨z,0,none⟩)) hg145.symm))) (opn_mm hs238 (x:=mm143) (MsOk.get okg119.mok hm144) ) ?_
 rintro e w239 ⟨rfl,hs240⟩
 refine ⟨_,rfl,?_⟩
 have hs241:St H116 _ (obj g219 39 (clView e210)::row 34 2 v_ps ps.length c_ps::row 3 1 v_ls ls.length c_ls::obj gr118.a 67 [.int .i64 ((gr118.n:Nat):Int),.slice gr118.A gr118.ln gr118.lc,gr118.bv,gr118.vv]::row 53 16 gr118.bv gr118.bag.length gr118.bc::row 63 1 gr118.vv gr118.vs.length gr118.vc::memsR 78 81 37 gr118.ms ++ (vrsR 39 gr118.vs ++ (L))):=St.mmBack [obj g219 39 (clView e210),row 34 2 v_ps ps.length c_ps,row 3 1 v_ls ls.length c_ls,obj gr118.a 67 [.int .i64 ((gr118.n:Nat):Int),.slice gr118.A gr118.ln gr118.lc,gr118.bv,gr118.vv],row 53 16 gr118.bv gr118.bag.length gr118.bc,row 63 1 gr118.vv gr118.vs.length gr118.vc] hs240 hm144
 refine t_on (S':=fun u => St H116 u (obj g219 39 (clView e210)::row 34 2 v_ps ps.length c_ps::row 3 1 v_ls ls.length c_ls::obj gr118.a 67 [.int .i64 ((gr118.n:Nat):Int),.slice gr118.A gr118.ln gr118.lc,gr118.bv,gr118.vv]::row 53 16 gr118.bv gr118.bag.length gr118.bc::row 63 1 gr118.vv gr118.vs.length gr118.vc::L)) (fun u hu => hu) (St.dropL [obj g219 39 (clView e210),row 34 2 v_ps ps.length c_ps,row 3 1 v_ls ls.length c_ls,obj gr118.a 67 [.int .i64 ((gr118.n:Nat):Int),.slice gr118.A gr118.ln gr118.lc,gr118.bv,gr118.vv],row 53 16 gr118.bv gr118.bag.length gr118.bc,row 63 1 gr118.vv gr118.vs.length gr118.vc] (St.dropL [obj g219 39 (clView e210),row 34 2 v_ps ps.length c_ps,row 3 1 v_ls ls.length c_ls,obj gr118.a 67 [.int .i64 ((gr118.n:Nat):Int),.slice gr118.A gr118.ln gr118.lc,gr118.bv,gr118.vv],row 53 16 gr118.bv gr118.bag.length gr118.bc,row 63 1 gr118.vv gr118.vs.length gr118.vc] hs241)) ?_
 refine t_yes (k:=20) (v:=.bool (!mm143.m.opn)) rfl rfl (yl (dj:=131) (b:=false) rfl rfl (cVb (by rw [hc237]; rfl))) (fun w hs => (x_not (.tmp rfl rfl))) ?_
 refine t_st (k:=21) (v:=.bool (!mm143.m.opn)) rfl rfl (fun w hs => (x_pick_f (.tmp rfl (cVb (by rw [hc237]; rfl))) (.tmp rfl rfl))) ?_
 refine t_st (k:=22) (v:=.bool (!mm143.m.opn)) rfl rfl (fun w hs => (x_move (.tmp rfl rfl))) ?_
 have hc242:mm143.m.opn = true:=(by have h9:=hv3; rw [gok_m hm144] at h9; exact h9)
 refine t_yes (k:=23) (v:=.pointer (some ⟨g219,0 + 0,none⟩)) rfl rfl (yl (dj:=142) (b:=false) rfl rfl (cVb (by rw [hc242]; rfl))) (fun w hs => (fa39_0 (.tmp rfl rfl))) ?_
 refine t_yes (k:=24) (v:=.pointer (some ⟨g219,0 + 0 + 1,none⟩)) rfl rfl (yl (dj:=142) (b:=false) rfl rfl (cVb (by rw [hc242]; rfl))) (fun w hs => (fa34_1 (.tmp rfl rfl))) ?_
 refine t_yes (k:=25) (v:=.int .i64 e210.ID.P) rfl rfl (yl (dj:=142) (b:=false) rfl rfl (cVb (by rw [hc242]; rfl))) (fun w hs => (ld3 (.tmp rfl rfl) (hs.cell 0 rfl (0 + 0 + 1) rfl))) ?_
 refine t_yes (k:=26) (v:=.int .i64 ((q:Nat):Int)) rfl rfl (yl (dj:=142) (b:=false) rfl rfl (cVb (by rw [hc242]; rfl))) (fun w hs => (x_move (.tmp rfl hρ130))) ?_
 refine t_yes (k:=27) (v:=.bool (decide ((e210.ID.P:Int) ≠ ((q:Nat):Int)))) rfl rfl (yl (dj:=142) (b:=false) rfl rfl (cVb (by rw [hc242]; rfl))) (fun w hs => (x_neq (k:=.i64) (a:=e210.ID.P) (b:=((q:Nat):Int)) (.tmp rfl rfl) (.tmp rfl rfl))) ?_
 refine t_yes (k:=28) (v:=.bool (decide ((e210.ID.P:Int) ≠ ((q:Nat):Int)))) rfl rfl (yl (dj:=142) (b:=false) rfl rfl (cVb (by rw [hc242]; rfl))) (fun w hs => (x_move (.tmp rfl rfl))) ?_
 rcases Bool.eq_false_or_eq_true (decide ((e210.ID.P:Int) ≠ ((q:Nat):Int))) with hc243 | hc243
 have hp243:(e210.ID.P:Int) ≠ ((q:Nat):Int):=of_decide_eq_true hc243
 refine t_yes (k:=29) (v:=.pointer (some ⟨g219,0 + 0,none⟩)) rfl rfl (yk 148 true rfl rfl hc243) (fun w hs => (fa39_0 (.tmp rfl rfl))) ?_
 refine t_yes (k:=30) (v:=.agg #[.int .u64 ((e210.ID.N:Nat):Int),.int .i64 e210.ID.P]) rfl rfl (yk 148 true rfl rfl hc243) (fun w hs => (ld34 (cs:=[.int .u64 ((e210.ID.N:Nat):Int),.int .i64 e210.ID.P]) (.tmp rfl rfl) (hs.at_ 0 rfl (0 + 0) rfl) rfl)) ?_
 refine t_yes (k:=31) (v:=v_ps) rfl rfl (yk 148 true rfl rfl hc243) (fun w hs => (x_move (.tmp rfl hρ128))) ?_
 refine t_yes (k:=32) (v:=.int .i64 ((q:Nat):Int)) rfl rfl (yk 148 true rfl rfl hc243) (fun w hs => (x_move (.tmp rfl hρ130))) ?_
 obtain ⟨g244,c245,hv246⟩:=ok_ps.pos (by omega)
 refine t_yes (k:=33) (v:=.pointer (some ⟨g244,(q * 2),none⟩)) rfl rfl (yk 148 true rfl rfl hc243) (fun w hs => (ixo70 (.tmp rfl hv246) rfl (i:=((q:Nat):Int)) (.tmp rfl rfl) (by omega) (by omega) (by omega))) ?_
 refine t_yes (k:=34) (v:=.agg #[.int .u64 ((e149.N:Nat):Int),.int .i64 e149.P]) rfl rfl (yk 148 true rfl rfl hc243) (fun w hs => (ld34 (cs:=[.int .u64 ((e149.N:Nat):Int),.int .i64 e149.P]) (.tmp rfl rfl) ((hs.rowAt 1 rfl hv246 (q * 2) hsub153).sub 0 rfl) rfl)) ?_
 refine t_yes (k:=35) (v:=.bool (!((((e210.ID.N:Nat):Int) == ((e149.N:Nat):Int)) && ((e210.ID.P == e149.P) && true)))) rfl rfl (yk 148 true rfl rfl hc243) (fun w hs => (x_neqA eqg34 (.tmp rfl rfl) (.tmp rfl rfl) (fun d => eqs34 (d + 98) _ ((e210.ID.N:Nat):Int) ((e149.N:Nat):Int) e210.ID.P e149.P))) ?_
 refine t_yes (k:=36) (v:=.bool (!(decide (e210.ID = e149)))) rfl rfl (yl (dj:=142) (b:=false) rfl rfl (cVb (by rw [hc242]; rfl))) (fun w hs => (x_pick_t (.tmp rfl (cVb hc243)) (.tmp rfl (congrArg (fun z => Value.bool (!z)) (GViewID.beq_dec e210.ID e149))))) ?_
 refine t_st (k:=37) (v:=.bool (!(decide (e210.ID = e149)))) rfl rfl (fun w hs => (x_pick_f (.tmp rfl (cVb (by rw [hc242]; rfl))) (.tmp rfl rfl))) ?_
 refine t_nil ?_
 refine n_then ?_
 have hc247:(decide (e210.ID = e149)) = true:=(decide_eq_true (by rw [hpe_e149,hev_e210]; exact hv4 (by rw [← hev_e210]; omega)))
 have hp247:e210.ID = e149:=of_decide_eq_true hc247
 refine c_cond_f (t:=false) (.tmp rfl (cVb (by rw [hc247]; rfl))) rfl ?_
 refine c_skip (n_block (n_then (c_region (st (v:=.int .i64 ((q:Nat):Int)) (x_move (.tmp rfl hρ130)) ?_))))
 refine st (v:=.int .i64 (((q + 1):Nat):Int)) (x_add (k:=.i64) (a:=((q:Nat):Int)) (b:=1) (.tmp rfl rfl) .const ((w64 (by omega) (by omega)).trans (by omega))) ?_
 refine st (v:=.int .i64 (((q + 1):Nat):Int)) (x_assign (.tmp rfl rfl)) ?_
 refine c_nil ?_
 refine n_then ⟨_,_,rfl,?_,(q + 1),hρ125,hρ126,hρ127,hρ128,hρ129,rfl,(by omega),(((((hs241.drop.p4).p4).p4).p4).p4),rfl⟩
 omega
 have hp243:¬ ((e210.ID.P:Int) ≠ ((q:Nat):Int)):=of_decide_eq_false hc243
 refine t_no (k:=29) rfl (yk 148 false rfl rfl hc243) rfl ?_
 refine t_no (k:=30) rfl (yk 148 false rfl rfl hc243) rfl ?_
 refine t_no (k:=31) rfl (yk 148 false rfl rfl hc243) rfl ?_
 refine t_no (k:=32) rfl (yk 148 false rfl rfl hc243) rfl ?_
 refine t_no (k:=33) rfl (yk 148 false rfl rfl hc243) rfl ?_
 refine t_no (k:=34) rfl (yk 148 false rfl rfl hc243) rfl ?_
 refine t_no (k:=35) rfl (yk 148 false rfl rfl hc243) rfl ?_
 refine t_yes (k:=36) (v:=.bool false) rfl rfl (yl (dj:=142) (b:=false) rfl rfl (cVb (by rw [hc242]; rfl))) (fun w hs => (x_pick_f (.tmp rfl (cVb hc243)) .const)) ?_
 refine t_st (k:=37) (v:=.bool false) rfl rfl (fun w hs => (x_pick_f (.tmp rfl (cVb (by rw [hc242]; rfl))) (.tmp rfl rfl))) ?_
 refine t_nil ?_
 refine n_then (c_cond_f (t:=false) (.tmp rfl rfl) rfl ?_)
 refine c_skip (n_block (n_then (c_region (st (v:=.int .i64 ((q:Nat):Int)) (x_move (.tmp rfl hρ130)) ?_))))
 refine st (v:=.int .i64 (((q + 1):Nat):Int)) (x_add (k:=.i64) (a:=((q:Nat):Int)) (b:=1) (.tmp rfl rfl) .const ((w64 (by omega) (by omega)).trans (by omega))) ?_
 refine st (v:=.int .i64 (((q + 1):Nat):Int)) (x_assign (.tmp rfl rfl)) ?_
 refine c_nil ?_
 refine n_then ⟨_,_,rfl,?_,(q + 1),hρ125,hρ126,hρ127,hρ128,hρ129,rfl,(by omega),(((((hs241.drop.p4).p4).p4).p4).p4),rfl⟩
 omega
 have hp132:¬ ((((q:Nat):Int):Int) < ((gr118.n:Nat):Int)):=of_decide_eq_false hc132
 refine c_cond_f (t:=false) (.tmp rfl (cVb hc132)) rfl ?_
 refine c_exit (x_then (x_then (x_here (n_block (n_then (c_region (st (v:=.int .i64 ((i:Nat):Int)) (x_move (.tmp rfl hρ127)) ?_)))))))
 refine st (v:=.int .i64 (((i + 1):Nat):Int)) (x_add (k:=.i64) (a:=((i:Nat):Int)) (b:=1) (.tmp rfl rfl) .const ((w64 (by omega) (by omega)).trans (by omega))) ?_
 refine st (v:=.int .i64 (((i + 1):Nat):Int)) (x_assign (.tmp rfl rfl)) ?_
 refine c_nil ?_
 have hyn2:gr118.n = (2 + z % 5):=hgn121.trans hyn
 refine n_then ⟨_,_,rfl,?_,H116,(i + 1),gr118,hρ125,hρ126,rfl,(hg12.trans hle117),(by omega),(by omega),okg119,(by rw [hgg122]; exact hy.move (by omega) _),hyn2,(((hs131.drop.drop.p2).p2).p2),rfl⟩
 omega
 have hp23:¬ (((((i:Nat):Int):Int) < ((n_l:Nat):Int))∧((((i:Nat):Int):Int) < 150)):=J_no (J_and decide_eq_true_iff decide_eq_true_iff) hc23
 refine c_cond_f (t:=false) (.tmp rfl (hρ18.trans (cVb hc23))) rfl ?_
 refine c_exit (x_then (x_then (x_here (n_then (c_seq (c_region (st (v:=.bool true) (x_assign .const) ?_)))))))
 refine c_nil (n_then (c_ret (leave_ret (res_one (v:=.bool true) rfl (.mk rfl rfl)) ?_)))
 exact ⟨rfl,((St.dropL [] (St.dropL [] hs22.drop.drop.drop)).weaken (hle6.trans hg12))⟩
end Go.Proofs.YtcccaihjgoaehaaDoor
