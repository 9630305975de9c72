/- Steps of the proofs over the functions of this seat, printed by a program (gen.py) and checked by Lean. -/
import Derived.Test.YtcccaihjgoaehaaDoorW01
import Derived.Test.YtcccaihjgoaehaaDoorW00
import Derived.Test.YtcccaihjgoaehaaDoorW03
import Derived.Test.YtcccaihjgoaehaaDoorW10
set_option linter.unusedVariables false
set_option linter.unusedSimpArgs false
namespace Go.Proofs.YtcccaihjgoaehaaDoor
open Go Go.FM Go.Proofs
attribute [local irreducible] wpList wpQuiet wpS Code.wp Calls
set_option maxHeartbeats 8000000 in
theorem move_spec {H:Hp} {w:World} {L:List Res} {x:GR} (hs:St H w (GR.res 67 53 63 39 78 81 37 x ++ (L))) (ok_x:GR.ok x H) (a:GMove) {k_a:List Value} (h_a:kMove.rep H a k_a) (hg:GOk x.g) (hbl0:x.bag.length ≤ 100000) (htab:Tab H):Calls Tryd.prog 21 #[.pointer (some ⟨x.a,0,none⟩),.agg k_a.toArray] w (fun e w' => ∃ (H':Hp) (x':GR),H.le H'∧e = .returned (.tuple #[])∧GR.ok x' H'∧x'.a = x.a∧x'.n = x.n∧x'.g = (x.g.move a)∧St H' w' (GR.res 67 53 63 39 78 81 37 x' ++ (L))):=by
 have hs1:St H _ (obj x.a 67 [.int .i64 ((x.n:Nat):Int),.slice x.A x.ln x.lc,x.bv,x.vv]::row 53 16 x.bv x.bag.length x.bc::row 63 1 x.vv x.vs.length x.vc::memsR 78 81 37 x.ms ++ (vrsR 39 x.vs ++ (L))):=St.grpOpen [] hs
 obtain ⟨rfl,b2,b3,b4⟩:=h_a
 refine enter (args:=[.pointer (some ⟨x.a,0,none⟩),.agg #[.int .u8 ((a.Kind:Nat):Int),.int .u8 ((a.I:Nat):Int),.int .u16 ((a.Est:Nat):Int),.bool a.Keep]]) (N:=180) Tryd.func21 rfl rfl rfl ?_
 obtain ⟨hn1,hn16⟩:1 ≤ x.n∧x.n ≤ 16:=GOk.n1 hg
 have hms:=gok_ms hg
 have hvs:=gok_vs hg
 have hmod:a.I % x.n < x.n:=Nat.mod_lt _ (by omega)
 have hpl:(ptrs x.ms).length = x.n:=by unfold ptrs; rw [List.length_map]; exact hms
 have hpl2:=ok_x.l.len
 have hpl3:=ok_x.l.le
 refine c_seq (c_region (st_m (m_box (cs:=[.int .u8 ((a.Kind:Nat):Int),.int .u8 ((a.I:Nat):Int),.int .u16 ((a.Est:Nat):Int),.bool a.Keep]) hs1 (v:=.agg #[.int .u8 ((a.Kind:Nat):Int),.int .u8 ((a.I:Nat):Int),.int .u16 ((a.Est:Nat):Int),.bool a.Keep]) (.tmp rfl rfl) rfl) ?_))
 rintro _ w6 ⟨g5,rfl,hs8⟩
 refine c_nil (n_then (c_seq (q_region mixed hs8 (by kernel_rfl) ?_)))
 refine q_st (v:=.pointer (some ⟨g5,0 + 1,none⟩)) (fun w hs => (fa62_1 (.tmp rfl rfl))) ?_
 refine q_st (v:=.int .u8 ((a.I:Nat):Int)) (fun w hs => (ld5 (.tmp rfl rfl) (hs.cell 0 rfl (0 + 1) rfl))) ?_
 refine q_st (v:=.int .i64 ((a.I:Nat):Int)) (fun w hs => (x_conv (k:=.u8) (a:=((a.I:Nat):Int)) Tryd.underlying5 Tryd.underlying3 (.tmp rfl rfl) (w64 (by omega) (by omega)))) ?_
 refine q_st (v:=.pointer (some ⟨x.a,0,none⟩)) (fun w hs => (x_move (.tmp rfl rfl))) ?_
 refine q_st (v:=.pointer (some ⟨x.a,0,none⟩)) (fun w hs => (x_nilCheck (.tmp rfl rfl))) ?_
 refine q_st (v:=.pointer (some ⟨x.a,0 + 0,none⟩)) (fun w hs => (fa67_0 (.tmp rfl rfl))) ?_
 refine q_st (v:=.int .i64 ((x.n:Nat):Int)) (fun w hs => (ld3 (.tmp rfl rfl) (hs.cell 1 rfl (0 + 0) rfl))) ?_
 refine q_st (v:=.int .i64 (((a.I % x.n):Nat):Int)) (fun w hs => (x_remN (k:=.i64) (m:=a.I) (n:=x.n) (.tmp rfl rfl) (.tmp rfl rfl) (by omega))) ?_
 refine q_st (v:=.int .i64 (((a.I % x.n):Nat):Int)) (fun w hs => (x_assign (.tmp rfl rfl))) ?_
 refine q_nil ?_
 intro w hs9
 refine n_then (c_seq (c_region (st (v:=.pointer (some ⟨g5,0 + 0,none⟩)) (fa62_0 (.tmp rfl rfl)) ?_)))
 refine st (v:=.int .u8 ((a.Kind:Nat):Int)) (ld5 (.tmp rfl rfl) (hs9.cell 0 rfl (0 + 0) rfl)) ?_
 refine st (v:=.int .u8 (((a.Kind % 9):Nat):Int)) (x_remN (k:=.u8) (m:=a.Kind) (n:=9) (.tmp rfl rfl) .const (by omega)) ?_
 refine st (v:=.int .u8 (((a.Kind % 9):Nat):Int)) (x_assign (.tmp rfl rfl)) ?_
 refine c_nil (n_then (c_block (c_seq (c_region (st (v:=.int .u8 (((a.Kind % 9):Nat):Int)) (x_move (.tmp rfl rfl)) ?_)))))
 refine st (v:=.bool (decide (((((a.Kind % 9):Nat):Int):Int) < 3))) (x_lss (k:=.u8) (a:=(((a.Kind % 9):Nat):Int)) (b:=3) (.tmp rfl rfl) .const) ?_
 refine st (v:=.bool (decide (((((a.Kind % 9):Nat):Int):Int) < 3))) (x_assign (.tmp rfl rfl)) ?_
 refine c_nil (n_then ?_)
 rcases Bool.eq_false_or_eq_true (decide (((((a.Kind % 9):Nat):Int):Int) < 3)) with hc10 | hc10
 have hp10:((((a.Kind % 9):Nat):Int):Int) < 3:=of_decide_eq_true hc10
 refine c_cond_t (t:=true) (.tmp rfl (cVb hc10)) rfl ?_
 refine c_seq (t_region (L:=obj g5 62 (clMove a)::obj x.a 67 [.int .i64 ((x.n:Nat):Int),.slice x.A x.ln x.lc,x.bv,x.vv]::row 53 16 x.bv x.bag.length x.bc::row 63 1 x.vv x.vs.length x.vc::memsR 78 81 37 x.ms ++ (vrsR 39 x.vs ++ (L))) (L':=obj g5 62 (clMove a)::obj x.a 67 [.int .i64 ((x.n:Nat):Int),.slice x.A x.ln x.lc,x.bv,x.vv]::row 53 16 x.bv x.bag.length x.bc::row 63 1 x.vv x.vs.length x.vc::L) (Z:=[19]) (F:=[0,1,9,10,11]) (pl:=(.q 0 (.q 1 (.q 2 (.q 3 (.q 4 (.q 5 (.q 6 (.q 7 (.q 8 (.q 9 (.q 10 (.q 11 (.q 12 (.q 13 (.q 14 (.q 15 (.e 16 (.q 17 (.q 18 (.e 19 (.q 20 (.q 21 (.q 22 (.q 23 (.q 24 .done)))))))))))))))))))))))))) mixed hs9 (fun u hu => (St.dropL [obj g5 62 (clMove a),obj x.a 67 [.int .i64 ((x.n:Nat):Int),.slice x.A x.ln x.lc,x.bv,x.vv],row 53 16 x.bv x.bag.length x.bc,row 63 1 x.vv x.vs.length x.vc] (St.dropL [obj g5 62 (clMove a),obj x.a 67 [.int .i64 ((x.n:Nat):Int),.slice x.A x.ln x.lc,x.bv,x.vv],row 53 16 x.bv x.bag.length x.bc,row 63 1 x.vv x.vs.length x.vc] hu))) (by kernel_rfl) ?_)
 intro w11 hs12
 refine t_fr (k:=0) (v:=.pointer (some ⟨x.a,0,none⟩)) rfl (fun w _ => (x_move (.tmp rfl rfl))) ?_
 refine t_fr (k:=1) (v:=.pointer (some ⟨x.a,0,none⟩)) rfl (fun w _ => (x_nilCheck (.tmp rfl rfl))) ?_
 refine t_st (k:=2) (v:=.pointer (some ⟨x.a,0 + 1,none⟩)) rfl rfl (fun w hs => (fa67_1 (.tmp rfl rfl))) ?_
 refine t_st (k:=3) (v:=.slice x.A x.ln x.lc) rfl rfl (fun w hs => (ld64 (.tmp rfl rfl) (hs.cell 1 rfl (0 + 1) rfl))) ?_
 refine t_st (k:=4) (v:=.int .i64 (((a.I % x.n):Nat):Int)) rfl rfl (fun w hs => (x_move (.tmp rfl rfl))) ?_
 obtain ⟨e13,b14,o15,cs16,hx17,hA18,hr19,hat20⟩:=ok_x.l.get (i:=(a.I % x.n)) (by omega)
 obtain ⟨rfl⟩:=hr19
 have hat20x:∀ {w:World} {L:List Res},St H w L → At w ⟨b14,o15 + (a.I % x.n) * 1,none⟩ [.pointer (some ⟨e13,0,none⟩)]:=fun h => hat20 h
 obtain ⟨mm21,hm22,hg23⟩:=ptr_at hx17
 refine t_st (k:=5) (v:=.pointer (some ⟨b14,(o15 + (a.I % x.n) * 1),none⟩)) rfl rfl (fun w hs => (ixo64 (.tmp rfl rfl) hA18 (i:=(((a.I % x.n):Nat):Int)) (.tmp rfl rfl) (by omega) (by omega) (by omega))) ?_
 refine t_st (k:=6) (v:=.pointer (some ⟨e13,0,none⟩)) rfl rfl (fun w hs => (ld23 (.tmp rfl rfl) ((hat20x hs).cell 0 rfl))) ?_
 refine t_st (k:=7) (v:=.pointer (some ⟨g5,0 + 2,none⟩)) rfl rfl (fun w hs => (fa62_2 (.tmp rfl rfl))) ?_
 refine t_st (k:=8) (v:=.int .u16 ((a.Est:Nat):Int)) rfl rfl (fun w hs => (ld31 (.tmp rfl rfl) (hs.cell 0 rfl (0 + 2) rfl))) ?_
 refine t_fr (k:=9) (v:=.pointer (some ⟨x.a,0,none⟩)) rfl (fun w _ => (x_move (.tmp rfl rfl))) ?_
 refine t_fr (k:=10) (v:=.pointer (some ⟨x.a,0,none⟩)) rfl (fun w _ => (x_nilCheck (.tmp rfl rfl))) ?_
 refine t_fr (k:=11) (v:=.pointer (some ⟨x.a,0 + 1,none⟩)) rfl (fun w _ => (fa67_1 (.tmp rfl rfl))) ?_
 refine t_st (k:=12) (v:=.slice x.A x.ln x.lc) rfl rfl (fun w hs => (ld64 (.tmp rfl rfl) (hs.cell 1 rfl (0 + 1) rfl))) ?_
 refine t_st (k:=13) (v:=.int .i64 (((a.I % x.n):Nat):Int)) rfl rfl (fun w hs => (x_move (.tmp rfl rfl))) ?_
 refine t_st (k:=14) (v:=.pointer (some ⟨b14,(o15 + (a.I % x.n) * 1),none⟩)) rfl rfl (fun w hs => (ixo64 (.tmp rfl rfl) hA18 (i:=(((a.I % x.n):Nat):Int)) (.tmp rfl rfl) (by omega) (by omega) (by omega))) ?_
 refine t_st (k:=15) (v:=.pointer (some ⟨e13,0,none⟩)) rfl rfl (fun w hs => (ld23 (.tmp rfl rfl) ((hat20x hs).cell 0 rfl))) ?_
 refine t_eff (k:=16) rfl ?_
 have hs24:St H _ (MM.res 78 81 37 mm21 ++ (obj g5 62 (clMove a)::obj x.a 67 [.int .i64 ((x.n:Nat):Int),.slice x.A x.ln x.lc,x.bv,x.vv]::row 53 16 x.bv x.bag.length x.bc::row 63 1 x.vv x.vs.length x.vc::memsR 78 81 37 (x.ms.eraseIdx (a.I % x.n)) ++ (vrsR 39 x.vs ++ (L)))):=St.mmOut [obj g5 62 (clMove a),obj x.a 67 [.int .i64 ((x.n:Nat):Int),.slice x.A x.ln x.lc,x.bv,x.vv],row 53 16 x.bv x.bag.length x.bc,row 63 1 x.vv x.vs.length x.vc] hs12 hm22
 refine st_c cb14 .func (evs1 (.tmp rfl (congrArg (fun z => Value.pointer (some ⟨z,0,none⟩)) hg23.symm))) (cur_mm hs24 (x:=mm21) (MsOk.get ok_x.mok hm22) ) ?_
 rintro e w25 ⟨cs27,rfl,hr28,hs26⟩
 obtain ⟨rfl,b29,⟨b30,b31⟩,b32⟩:=hr28
 refine ⟨_,rfl,?_⟩
 have hs33:St H _ (obj g5 62 (clMove a)::obj x.a 67 [.int .i64 ((x.n:Nat):Int),.slice x.A x.ln x.lc,x.bv,x.vv]::row 53 16 x.bv x.bag.length x.bc::row 63 1 x.vv x.vs.length x.vc::memsR 78 81 37 x.ms ++ (vrsR 39 x.vs ++ (L))):=St.mmBack [obj g5 62 (clMove a),obj x.a 67 [.int .i64 ((x.n:Nat):Int),.slice x.A x.ln x.lc,x.bv,x.vv],row 53 16 x.bv x.bag.length x.bc,row 63 1 x.vv x.vs.length x.vc] hs26 hm22
 refine t_on (S':=fun u => St H u (obj g5 62 (clMove a)::obj x.a 67 [.int .i64 ((x.n:Nat):Int),.slice x.A x.ln x.lc,x.bv,x.vv]::row 53 16 x.bv x.bag.length x.bc::row 63 1 x.vv x.vs.length x.vc::L)) (fun u hu => hu) (St.dropL [obj g5 62 (clMove a),obj x.a 67 [.int .i64 ((x.n:Nat):Int),.slice x.A x.ln x.lc,x.bv,x.vv],row 53 16 x.bv x.bag.length x.bc,row 63 1 x.vv x.vs.length x.vc] (St.dropL [obj g5 62 (clMove a),obj x.a 67 [.int .i64 ((x.n:Nat):Int),.slice x.A x.ln x.lc,x.bv,x.vv],row 53 16 x.bv x.bag.length x.bc,row 63 1 x.vv x.vs.length x.vc] hs33)) ?_
 refine t_st (k:=17) (v:=.agg #[.int .u64 ((mm21.m.cur.ID.N:Nat):Int),.int .i64 mm21.m.cur.ID.P]) rfl rfl (fun w hs => (x_field Tryd.underlying39 rfl (.tmp rfl rfl) (fun w => (part_agg (by kernel_rfl) inf34 rfl)))) ?_
 refine t_st (k:=18) (v:=.agg #[.int .u64 ((mm21.m.cur.ID.N:Nat):Int),.int .i64 mm21.m.cur.ID.P,.int .i64 0,.slice none 0 0]) rfl rfl (fun w hs => (bl37 (ps:=[(0,.agg #[.int .u64 ((mm21.m.cur.ID.N:Nat):Int),.int .i64 mm21.m.cur.ID.P])]) (.cons (.tmp rfl rfl) Evp.nil) rfl)) ?_
 refine t_eff (k:=19) rfl ?_
 have hs34:St H _ (MM.res 78 81 37 mm21 ++ (obj g5 62 (clMove a)::obj x.a 67 [.int .i64 ((x.n:Nat):Int),.slice x.A x.ln x.lc,x.bv,x.vv]::row 53 16 x.bv x.bag.length x.bc::row 63 1 x.vv x.vs.length x.vc::memsR 78 81 37 (x.ms.eraseIdx (a.I % x.n)) ++ (vrsR 39 x.vs ++ (L)))):=St.mmOut [obj g5 62 (clMove a),obj x.a 67 [.int .i64 ((x.n:Nat):Int),.slice x.A x.ln x.lc,x.bv,x.vv],row 53 16 x.bv x.bag.length x.bc,row 63 1 x.vv x.vs.length x.vc] hs33 hm22
 have hr35:kState.rep H (GState.mk mm21.m.cur.ID 0 []) [.int .u64 ((mm21.m.cur.ID.N:Nat):Int),.int .i64 mm21.m.cur.ID.P,.int .i64 0,.slice none 0 0]:=⟨none,0,0,rfl,b29,⟨b30,b31⟩,(show IB 0 from ⟨by omega,by omega⟩),(Sl.nil _ _ none)⟩
 refine st_c cb12 .func (evs3 (.tmp rfl (congrArg (fun z => Value.pointer (some ⟨z,0,none⟩)) hg23.symm)) (.tmp rfl rfl) (.tmp rfl rfl)) (tick_mm hs34 (x:=mm21) (MsOk.get ok_x.mok hm22) a.Est b4 (GState.mk mm21.m.cur.ID 0 []) hr35 ⟨Int.le_refl 0,by show (0:Int) ≤ 1073741824; decide⟩ htab) ?_
 rintro e w36 ⟨H38,v40,cs43,iv45,mm47,hle39,rfl,ok41,hk44,hin46,mok48,hmg49,hmm50,hs37⟩
 refine ⟨_,rfl,?_⟩
 have hs52:=St.upL [row 53 16 v40 (((MB.tick mm21.m a.Est (GState.mk mm21.m.cur.ID 0 [])).2.1).length) cs43] hs37
 have hs51:St H38 _ (row 53 16 v40 (((MB.tick mm21.m a.Est (GState.mk mm21.m.cur.ID 0 [])).2.1).length) cs43::obj g5 62 (clMove a)::obj x.a 67 [.int .i64 ((x.n:Nat):Int),.slice x.A x.ln x.lc,x.bv,x.vv]::row 53 16 x.bv x.bag.length x.bc::row 63 1 x.vv x.vs.length x.vc::memsR 78 81 37 (x.ms.set (a.I % x.n) mm47) ++ (vrsR 39 x.vs ++ (L))):=St.mmIn (y:=mm47) [row 53 16 v40 (((MB.tick mm21.m a.Est (GState.mk mm21.m.cur.ID 0 [])).2.1).length) cs43,obj g5 62 (clMove a),obj x.a 67 [.int .i64 ((x.n:Nat):Int),.slice x.A x.ln x.lc,x.bv,x.vv],row 53 16 x.bv x.bag.length x.bc,row 63 1 x.vv x.vs.length x.vc] hs52 hm22
 refine t_new (S':=fun u => St H38 u (row 53 16 v40 (((MB.tick mm21.m a.Est (GState.mk mm21.m.cur.ID 0 [])).2.1).length) cs43::obj g5 62 (clMove a)::obj x.a 67 [.int .i64 ((x.n:Nat):Int),.slice x.A x.ln x.lc,x.bv,x.vv]::row 53 16 x.bv x.bag.length x.bc::row 63 1 x.vv x.vs.length x.vc::L)) rfl (St.dropL [row 53 16 v40 (((MB.tick mm21.m a.Est (GState.mk mm21.m.cur.ID 0 [])).2.1).length) cs43,obj g5 62 (clMove a),obj x.a 67 [.int .i64 ((x.n:Nat):Int),.slice x.A x.ln x.lc,x.bv,x.vv],row 53 16 x.bv x.bag.length x.bc,row 63 1 x.vv x.vs.length x.vc] (St.dropL [row 53 16 v40 (((MB.tick mm21.m a.Est (GState.mk mm21.m.cur.ID 0 [])).2.1).length) cs43,obj g5 62 (clMove a),obj x.a 67 [.int .i64 ((x.n:Nat):Int),.slice x.A x.ln x.lc,x.bv,x.vv],row 53 16 x.bv x.bag.length x.bc,row 63 1 x.vv x.vs.length x.vc] hs51)) ?_
 refine t_st (k:=20) (v:=.tuple #[v40,iv45]) rfl rfl (fun w hs => (x_move (.tmp rfl rfl))) ?_
 refine t_st (k:=21) (v:=v40) rfl rfl (fun w hs => (x_extract (.tmp rfl rfl) (i:=0) rfl)) ?_
 refine t_st (k:=22) (v:=iv45) rfl rfl (fun w hs => (x_extract (.tmp rfl rfl) (i:=1) rfl)) ?_
 refine t_st (k:=23) (v:=v40) rfl rfl (fun w hs => (x_assign (.tmp rfl rfl))) ?_
 refine t_st (k:=24) (v:=iv45) rfl rfl (fun w hs => (x_assign (.tmp rfl rfl))) ?_
 refine t_nil ?_
 refine n_then (c_region ?_)
 have hl16:=gok_tick hg hm22 a.Est
 refine st (v:=.pointer (some ⟨x.a,0,none⟩)) (x_move (.tmp rfl rfl)) ?_
 refine st (v:=.int .i64 (((a.I % x.n):Nat):Int)) (x_move (.tmp rfl rfl)) ?_
 refine st (v:=v40) (x_move (.tmp rfl rfl)) ?_
 refine st (v:=iv45) (x_move (.tmp rfl rfl)) ?_
 have:((MB.tick mm21.m a.Est (GState.mk mm21.m.cur.ID 0 [])).2.1).length * 192 ≤ 140737488351232:=by omega
 obtain ⟨H53,A54,c55,hle56,hs57,rfl,sp58⟩:=hs51.freezeSl (d:=kOut) ok41 hk44 this
 have:=sp58.len; have:=sp58.le
 have hs59:=hs57.p3
 have hs60:=hs59.p3
 have hs61:=hs60.p3
 have okg63:GR.ok (GR.mk x.n (x.ms.set (a.I % x.n) mm47) x.bag x.vs x.a x.A x.ln x.lc x.bv x.bc x.vv x.vc) H53:=⟨(MsOk.mono (MsOk.set (MsOk.mono ok_x.mok hle39) hm22 mok48 hmg49) hle56),(by show Sl kPtr _ _ _ _ (ptrs (x.ms.set (a.I % x.n) mm47)); rw [(ptrs_set hm22 hmg49)]; exact ((ok_x.l.mono hle39).mono hle56)),ok_x.bok,(Kn.rows_mono (Kn.rows_mono ok_x.bhk hle39) hle56),ok_x.vok,(Kn.rows_mono (Kn.rows_mono ok_x.vhk hle39) hle56)⟩
 have hs62:St H53 _ (GR.res 67 53 63 39 78 81 37 (GR.mk x.n (x.ms.set (a.I % x.n) mm47) x.bag x.vs x.a x.A x.ln x.lc x.bv x.bc x.vv x.vc) ++ (obj g5 62 (clMove a)::L)):=St.grpShut (x:=(GR.mk x.n (x.ms.set (a.I % x.n) mm47) x.bag x.vs x.a x.A x.ln x.lc x.bv x.bc x.vv x.vc)) [obj g5 62 (clMove a)] hs61
 refine st_c cb35 .func (evs4 (.tmp rfl rfl) (.tmp rfl rfl) (.tmp rfl rfl) (.tmp rfl rfl)) (post_spec hs62 (x:=(GR.mk x.n (x.ms.set (a.I % x.n) mm47) x.bag x.vs x.a x.A x.ln x.lc x.bv x.bc x.vv x.vc)) okg63 (((a.I % x.n):Nat):Int) ⟨by omega,by omega⟩ ((MB.tick mm21.m a.Est (GState.mk mm21.m.cur.ID 0 [])).2.1) sp58 iv45 ((MB.tick mm21.m a.Est (GState.mk mm21.m.cur.ID 0 [])).2.2) (hin46.mono hle56) (by omega) (by show _ < x.vs.length; omega) (by dsimp only; first | omega | (simp only [List.length_append,List.length_take,List.length_drop]; omega)) (gok_tick hg hm22 _) (gok_vl (x:=x) hg)) ?_
 rintro e w65 ⟨H67,gr69,hle68,rfl,okg70,hga71,hgn72,hgg73,hs66⟩
 refine ⟨_,rfl,?_⟩
 have hs74:St H67 _ (obj gr69.a 67 [.int .i64 ((gr69.n:Nat):Int),.slice gr69.A gr69.ln gr69.lc,gr69.bv,gr69.vv]::row 53 16 gr69.bv gr69.bag.length gr69.bc::row 63 1 gr69.vv gr69.vs.length gr69.vc::obj g5 62 (clMove a)::memsR 78 81 37 gr69.ms ++ (vrsR 39 gr69.vs ++ (L))):=St.grpOpen [obj g5 62 (clMove a)] hs66
 refine c_nil (n_block (leave_end (res_none rfl) ?_))
 have hs75:=hs74.p2
 have hs76:=hs75.p2
 have hs77:=hs76.p2
 have okg79:GR.ok gr69 H67:=⟨okg70.mok,okg70.l,okg70.bok,okg70.bhk,okg70.vok,okg70.vhk⟩
 have hs78:St H67 _ (GR.res 67 53 63 39 78 81 37 gr69 ++ (obj g5 62 (clMove a)::L)):=St.grpShut (x:=gr69) [obj g5 62 (clMove a)] hs77
 have hs80:St H67 _ (obj g5 62 (clMove a)::GR.res 67 53 63 39 78 81 37 gr69 ++ (L)):=St.downL [obj g5 62 (clMove a)] hs78
 exact ⟨H67,gr69,((hle39.trans hle56).trans hle68),rfl,okg79,hga71,hgn72,(hgg73.trans (mv_tick (by omega) hm22 hmm50)),hs80.drop⟩
 have hp10:¬ (((((a.Kind % 9):Nat):Int):Int) < 3):=of_decide_eq_false hc10
 refine c_cond_f (t:=false) (.tmp rfl (cVb hc10)) rfl ?_
 refine c_seq (c_region (st (v:=.int .u8 (((a.Kind % 9):Nat):Int)) (x_move (.tmp rfl rfl)) ?_))
 refine st (v:=.bool (decide (((((a.Kind % 9):Nat):Int):Int) < 8))) (x_lss (k:=.u8) (a:=(((a.Kind % 9):Nat):Int)) (b:=8) (.tmp rfl rfl) .const) ?_
 refine st (v:=.bool (decide (((((a.Kind % 9):Nat):Int):Int) < 8))) (x_assign (.tmp rfl rfl)) ?_
 refine c_nil (n_then ?_)
 rcases Bool.eq_false_or_eq_true (decide (((((a.Kind % 9):Nat):Int):Int) < 8)) with hc81 | hc81
 have hp81:((((a.Kind % 9):Nat):Int):Int) < 8:=of_decide_eq_true hc81
 refine c_cond_t (t:=true) (.tmp rfl (cVb hc81)) rfl ?_
 refine c_seq (c_seq (c_region (st (v:=.pointer (some ⟨x.a,0,none⟩)) (x_move (.tmp rfl rfl)) ?_)))
 refine st (v:=.pointer (some ⟨x.a,0,none⟩)) (x_nilCheck (.tmp rfl rfl)) ?_
 refine st (v:=.pointer (some ⟨x.a,0 + 2,none⟩)) (fa67_2 (.tmp rfl rfl)) ?_
 refine st (v:=x.bv) (ld27 (.tmp rfl rfl) (hs9.cell 1 rfl (0 + 2) rfl)) ?_
 obtain ⟨A82,c83,hv84,hc85⟩:=ok_x.bok.slice
 refine st (v:=.int .i64 ((x.bag.length:Nat):Int)) (x_len (n:=x.bag.length) Tryd.underlying27 (.tmp rfl hv84)) ?_
 refine st (v:=.bool (decide ((((x.bag.length:Nat):Int):Int) = 0))) (x_eql (k:=.i64) (a:=((x.bag.length:Nat):Int)) (b:=0) (.tmp rfl rfl) .const) ?_
 refine c_nil (n_then ?_)
 rcases Bool.eq_false_or_eq_true (decide ((((x.bag.length:Nat):Int):Int) = 0)) with hc86 | hc86
 have hp86:(((x.bag.length:Nat):Int):Int) = 0:=of_decide_eq_true hc86
 refine c_cond_t (t:=true) (.tmp rfl (cVb hc86)) rfl ?_
 refine c_ret (r_then (r_block (leave_ret (res_none rfl) ?_)))
 have hs87:=hs9.p3
 have hs88:=hs87.p3
 have hs89:=hs88.p3
 have okg91:GR.ok x H:=⟨ok_x.mok,ok_x.l,ok_x.bok,ok_x.bhk,ok_x.vok,ok_x.vhk⟩
 have hs90:St H _ (GR.res 67 53 63 39 78 81 37 x ++ (obj g5 62 (clMove a)::L)):=St.grpShut (x:=x) [obj g5 62 (clMove a)] hs89
 have hs92:St H _ (obj g5 62 (clMove a)::GR.res 67 53 63 39 78 81 37 x ++ (L)):=St.downL [obj g5 62 (clMove a)] hs90
 exact ⟨H,x,(Hp.le.refl _),rfl,okg91,rfl,rfl,(mv_none (by omega) (by omega) (by omega)),hs92.drop⟩
 have hp86:¬ ((((x.bag.length:Nat):Int):Int) = 0):=of_decide_eq_false hc86
 refine c_cond_f (t:=false) (.tmp rfl (cVb hc86)) rfl ?_
 refine c_skip (n_then (c_seq (q_region mixed hs9 (by kernel_rfl) ?_)))
 refine q_st (v:=.pointer (some ⟨g5,0 + 2,none⟩)) (fun w hs => (fa62_2 (.tmp rfl rfl))) ?_
 refine q_st (v:=.int .u16 ((a.Est:Nat):Int)) (fun w hs => (ld31 (.tmp rfl rfl) (hs.cell 0 rfl (0 + 2) rfl))) ?_
 refine q_st (v:=.int .i64 ((a.Est:Nat):Int)) (fun w hs => (x_conv (k:=.u16) (a:=((a.Est:Nat):Int)) Tryd.underlying31 Tryd.underlying3 (.tmp rfl rfl) (w64 (by omega) (by omega)))) ?_
 refine q_st (v:=.pointer (some ⟨x.a,0,none⟩)) (fun w hs => (x_move (.tmp rfl rfl))) ?_
 refine q_st (v:=.pointer (some ⟨x.a,0,none⟩)) (fun w hs => (x_nilCheck (.tmp rfl rfl))) ?_
 refine q_st (v:=.pointer (some ⟨x.a,0 + 2,none⟩)) (fun w hs => (fa67_2 (.tmp rfl rfl))) ?_
 refine q_st (v:=x.bv) (fun w hs => (ld27 (.tmp rfl rfl) (hs.cell 1 rfl (0 + 2) rfl))) ?_
 obtain ⟨A93,c94,hv95,hc96⟩:=ok_x.bok.slice
 refine q_st (v:=.int .i64 ((x.bag.length:Nat):Int)) (fun w hs => (x_len (n:=x.bag.length) Tryd.underlying27 (.tmp rfl hv95))) ?_
 refine q_st (v:=.int .i64 (((a.Est % x.bag.length):Nat):Int)) (fun w hs => (x_remN (k:=.i64) (m:=a.Est) (n:=x.bag.length) (.tmp rfl rfl) (.tmp rfl rfl) (by omega))) ?_
 refine q_st (v:=.int .i64 (((a.Est % x.bag.length):Nat):Int)) (fun w hs => (x_assign (.tmp rfl rfl))) ?_
 refine q_nil ?_
 intro w hs97
 refine n_then (c_seq (c_region ?_))
 have hmod2:a.Est % x.bag.length < x.bag.length:=Nat.mod_lt _ (by omega)
 refine st (v:=.pointer (some ⟨x.a,0,none⟩)) (x_move (.tmp rfl rfl)) ?_
 refine st (v:=.pointer (some ⟨x.a,0,none⟩)) (x_nilCheck (.tmp rfl rfl)) ?_
 refine st (v:=.pointer (some ⟨x.a,0 + 2,none⟩)) (fa67_2 (.tmp rfl rfl)) ?_
 refine st (v:=x.bv) (ld27 (.tmp rfl rfl) (hs97.cell 1 rfl (0 + 2) rfl)) ?_
 refine st (v:=.int .i64 (((a.Est % x.bag.length):Nat):Int)) (x_move (.tmp rfl rfl)) ?_
 obtain ⟨g98,c99,hv100⟩:=ok_x.bok.pos (by omega)
 obtain ⟨e101,cs102,hx103,hr104,hsub105⟩:=Kn.rows_get (i:=(a.Est % x.bag.length)) ok_x.bhk (by omega)
 obtain ⟨A121,n122,c123,A126,n127,c128,A130,n131,c132,rfl,⟨b106,b107⟩,b108,⟨b109,b110⟩,b111,⟨b112,b113⟩,b114,b115,⟨b116,b117⟩,b118,⟨b119,b120⟩,hl124,b125,hl129,hl133,b134,b135⟩:=hr104
 have:=hl124.len; have:n122 * 48 ≤ 140737488351232:=hl124.bnd; have:=hl124.le
 have:=hl129.len; have:n127 * 24 ≤ 140737488351232:=hl129.bnd; have:=hl129.le
 have:=hl133.len; have:n131 * 32 ≤ 140737488351232:=hl133.bnd; have:=hl133.le
 obtain ⟨hto0_e101,hto1_e101⟩:=gok_to hg hx103
 refine st (v:=.pointer (some ⟨g98,((a.Est % x.bag.length) * 16),none⟩)) (ixo27 (.tmp rfl hv100) rfl (i:=(((a.Est % x.bag.length):Nat):Int)) (.tmp rfl rfl) (by omega) (by omega) (by omega)) ?_
 refine st (v:=.agg #[.int .i64 e101.To,.int .u8 ((e101.F.Kind:Nat):Int),.int .i64 e101.F.From,.int .u64 ((e101.F.ID.N:Nat):Int),.int .i64 e101.F.ID.P,.int .u16 ((e101.F.Set:Nat):Int),.int .u64 ((e101.F.Cur.N:Nat):Int),.int .i64 e101.F.Cur.P,.int .u64 ((e101.F.Prom.N:Nat):Int),.int .i64 e101.F.Prom.P,.slice A121 n122 c123,.int .u64 ((e101.F.Base:Nat):Int),.slice A126 n127 c128,.slice A130 n131 c132,.int .u64 ((e101.F.Ack:Nat):Int),.int .u64 ((e101.F.Safe:Nat):Int)]) (ld53 (cs:=[.int .i64 e101.To,.int .u8 ((e101.F.Kind:Nat):Int),.int .i64 e101.F.From,.int .u64 ((e101.F.ID.N:Nat):Int),.int .i64 e101.F.ID.P,.int .u16 ((e101.F.Set:Nat):Int),.int .u64 ((e101.F.Cur.N:Nat):Int),.int .i64 e101.F.Cur.P,.int .u64 ((e101.F.Prom.N:Nat):Int),.int .i64 e101.F.Prom.P,.slice A121 n122 c123,.int .u64 ((e101.F.Base:Nat):Int),.slice A126 n127 c128,.slice A130 n131 c132,.int .u64 ((e101.F.Ack:Nat):Int),.int .u64 ((e101.F.Safe:Nat):Int)]) (.tmp rfl rfl) ((hs97.rowAt 2 rfl hv100 ((a.Est % x.bag.length) * 16) hsub105).sub 0 rfl) rfl) ?_
 refine st_m (al53 (cs:=[.int .i64 0,.int .u8 0,.int .i64 0,.int .u64 0,.int .i64 0,.int .u16 0,.int .u64 0,.int .i64 0,.int .u64 0,.int .i64 0,.slice none 0 0,.int .u64 0,.slice none 0 0,.slice none 0 0,.int .u64 0,.int .u64 0]) hs97 rfl) ?_
 rintro _ w137 ⟨g136,rfl,hs139⟩
 refine st_m0 (sto53 (cs':=[.int .i64 e101.To,.int .u8 ((e101.F.Kind:Nat):Int),.int .i64 e101.F.From,.int .u64 ((e101.F.ID.N:Nat):Int),.int .i64 e101.F.ID.P,.int .u16 ((e101.F.Set:Nat):Int),.int .u64 ((e101.F.Cur.N:Nat):Int),.int .i64 e101.F.Cur.P,.int .u64 ((e101.F.Prom.N:Nat):Int),.int .i64 e101.F.Prom.P,.slice A121 n122 c123,.int .u64 ((e101.F.Base:Nat):Int),.slice A126 n127 c128,.slice A130 n131 c132,.int .u64 ((e101.F.Ack:Nat):Int),.int .u64 ((e101.F.Safe:Nat):Int)]) (i:=0) hs139 (v:=.agg #[.int .i64 e101.To,.int .u8 ((e101.F.Kind:Nat):Int),.int .i64 e101.F.From,.int .u64 ((e101.F.ID.N:Nat):Int),.int .i64 e101.F.ID.P,.int .u16 ((e101.F.Set:Nat):Int),.int .u64 ((e101.F.Cur.N:Nat):Int),.int .i64 e101.F.Cur.P,.int .u64 ((e101.F.Prom.N:Nat):Int),.int .i64 e101.F.Prom.P,.slice A121 n122 c123,.int .u64 ((e101.F.Base:Nat):Int),.slice A126 n127 c128,.slice A130 n131 c132,.int .u64 ((e101.F.Ack:Nat):Int),.int .u64 ((e101.F.Safe:Nat):Int)]) (.tmp rfl rfl) (.tmp rfl rfl) rfl (Nat.le_of_ble_eq_true rfl) (oneA rfl) rfl) ?_
 rintro w140 hs142
 refine c_nil (n_then (c_seq (c_seq (c_region (st (v:=.pointer (some ⟨g5,0 + 3,none⟩)) (fa62_3 (.tmp rfl rfl)) ?_)))))
 refine st (v:=.bool a.Keep) (ld4 (.tmp rfl rfl) (hs142.cell 1 rfl (0 + 3) rfl)) ?_
 refine st (v:=.bool (!a.Keep)) (x_not (.tmp rfl rfl)) ?_
 refine c_nil (n_then ?_)
 rcases Bool.eq_false_or_eq_true a.Keep with hc143 | hc143
 refine c_cond_f (t:=false) (.tmp rfl (cVb (by rw [hc143]; rfl))) rfl ?_
 refine c_skip (n_then (c_seq (c_region (st (v:=.int .u8 (((a.Kind % 9):Nat):Int)) (x_move (.tmp rfl rfl)) ?_))))
 refine st (v:=.bool (decide (((((a.Kind % 9):Nat):Int):Int) < 7))) (x_lss (k:=.u8) (a:=(((a.Kind % 9):Nat):Int)) (b:=7) (.tmp rfl rfl) .const) ?_
 refine c_nil (n_then ?_)
 rcases Bool.eq_false_or_eq_true (decide (((((a.Kind % 9):Nat):Int):Int) < 7)) with hc144 | hc144
 have hp144:((((a.Kind % 9):Nat):Int):Int) < 7:=of_decide_eq_true hc144
 refine c_cond_t (t:=true) (.tmp rfl (cVb hc144)) rfl ?_
 refine c_seq (t_region (L:=obj g136 53 (clOut e101 A121 n122 c123 A126 n127 c128 A130 n131 c132)::obj g5 62 (clMove a)::obj x.a 67 [.int .i64 ((x.n:Nat):Int),.slice x.A x.ln x.lc,x.bv,x.vv]::row 53 16 x.bv x.bag.length x.bc::row 63 1 x.vv x.vs.length x.vc::memsR 78 81 37 x.ms ++ (vrsR 39 x.vs ++ (L))) (L':=obj g136 53 (clOut e101 A121 n122 c123 A126 n127 c128 A130 n131 c132)::obj g5 62 (clMove a)::obj x.a 67 [.int .i64 ((x.n:Nat):Int),.slice x.A x.ln x.lc,x.bv,x.vv]::row 53 16 x.bv x.bag.length x.bc::row 63 1 x.vv x.vs.length x.vc::L) (Z:=[21]) (F:=[0,1,10,11,12,14]) (pl:=(.q 0 (.q 1 (.q 2 (.q 3 (.q 4 (.q 5 (.q 6 (.q 7 (.q 8 (.q 9 (.q 10 (.q 11 (.q 12 (.q 13 (.q 14 (.q 15 (.q 16 (.q 17 (.e 18 (.q 19 (.q 20 (.e 21 (.q 22 (.q 23 (.q 24 (.q 25 (.q 26 (.q 27 (.q 28 .done)))))))))))))))))))))))))))))) mixed hs142 (fun u hu => (St.dropL [obj g136 53 (clOut e101 A121 n122 c123 A126 n127 c128 A130 n131 c132),obj g5 62 (clMove a),obj x.a 67 [.int .i64 ((x.n:Nat):Int),.slice x.A x.ln x.lc,x.bv,x.vv],row 53 16 x.bv x.bag.length x.bc,row 63 1 x.vv x.vs.length x.vc] (St.dropL [obj g136 53 (clOut e101 A121 n122 c123 A126 n127 c128 A130 n131 c132),obj g5 62 (clMove a),obj x.a 67 [.int .i64 ((x.n:Nat):Int),.slice x.A x.ln x.lc,x.bv,x.vv],row 53 16 x.bv x.bag.length x.bc,row 63 1 x.vv x.vs.length x.vc] hu))) (by kernel_rfl) ?_)
 intro w145 hs146
 refine t_fr (k:=0) (v:=.pointer (some ⟨x.a,0,none⟩)) rfl (fun w _ => (x_move (.tmp rfl rfl))) ?_
 refine t_fr (k:=1) (v:=.pointer (some ⟨x.a,0,none⟩)) rfl (fun w _ => (x_nilCheck (.tmp rfl rfl))) ?_
 refine t_st (k:=2) (v:=.pointer (some ⟨x.a,0 + 1,none⟩)) rfl rfl (fun w hs => (fa67_1 (.tmp rfl rfl))) ?_
 refine t_st (k:=3) (v:=.slice x.A x.ln x.lc) rfl rfl (fun w hs => (ld64 (.tmp rfl rfl) (hs.cell 2 rfl (0 + 1) rfl))) ?_
 refine t_st (k:=4) (v:=.pointer (some ⟨g136,0 + 0,none⟩)) rfl rfl (fun w hs => (fa53_0 (.tmp rfl rfl))) ?_
 refine t_st (k:=5) (v:=.int .i64 e101.To) rfl rfl (fun w hs => (ld3 (.tmp rfl rfl) (hs.cell 0 rfl (0 + 0) rfl))) ?_
 obtain ⟨e147,b148,o149,cs150,hx151,hA152,hr153,hat154⟩:=ok_x.l.get (i:=e101.To.toNat) (by omega)
 obtain ⟨rfl⟩:=hr153
 have hat154x:∀ {w:World} {L:List Res},St H w L → At w ⟨b148,o149 + e101.To.toNat * 1,none⟩ [.pointer (some ⟨e147,0,none⟩)]:=fun h => hat154 h
 obtain ⟨mm155,hm156,hg157⟩:=ptr_at hx151
 refine t_st (k:=6) (v:=.pointer (some ⟨b148,(o149 + e101.To.toNat * 1),none⟩)) rfl rfl (fun w hs => (ixo64 (.tmp rfl rfl) hA152 (i:=e101.To) (.tmp rfl rfl) (by omega) (by omega) (by omega))) ?_
 refine t_st (k:=7) (v:=.pointer (some ⟨e147,0,none⟩)) rfl rfl (fun w hs => (ld23 (.tmp rfl rfl) ((hat154x hs).cell 0 rfl))) ?_
 refine t_st (k:=8) (v:=.pointer (some ⟨g136,0 + 1,none⟩)) rfl rfl (fun w hs => (fa53_1 (.tmp rfl rfl))) ?_
 refine t_st (k:=9) (v:=.agg #[.int .u8 ((e101.F.Kind:Nat):Int),.int .i64 e101.F.From,.int .u64 ((e101.F.ID.N:Nat):Int),.int .i64 e101.F.ID.P,.int .u16 ((e101.F.Set:Nat):Int),.int .u64 ((e101.F.Cur.N:Nat):Int),.int .i64 e101.F.Cur.P,.int .u64 ((e101.F.Prom.N:Nat):Int),.int .i64 e101.F.Prom.P,.slice A121 n122 c123,.int .u64 ((e101.F.Base:Nat):Int),.slice A126 n127 c128,.slice A130 n131 c132,.int .u64 ((e101.F.Ack:Nat):Int),.int .u64 ((e101.F.Safe:Nat):Int)]) rfl rfl (fun w hs => (ld51 (cs:=[.int .u8 ((e101.F.Kind:Nat):Int),.int .i64 e101.F.From,.int .u64 ((e101.F.ID.N:Nat):Int),.int .i64 e101.F.ID.P,.int .u16 ((e101.F.Set:Nat):Int),.int .u64 ((e101.F.Cur.N:Nat):Int),.int .i64 e101.F.Cur.P,.int .u64 ((e101.F.Prom.N:Nat):Int),.int .i64 e101.F.Prom.P,.slice A121 n122 c123,.int .u64 ((e101.F.Base:Nat):Int),.slice A126 n127 c128,.slice A130 n131 c132,.int .u64 ((e101.F.Ack:Nat):Int),.int .u64 ((e101.F.Safe:Nat):Int)]) (.tmp rfl rfl) (hs.at_ 0 rfl (0 + 1) rfl) rfl)) ?_
 refine t_fr (k:=10) (v:=.pointer (some ⟨x.a,0,none⟩)) rfl (fun w _ => (x_move (.tmp rfl rfl))) ?_
 refine t_fr (k:=11) (v:=.pointer (some ⟨x.a,0,none⟩)) rfl (fun w _ => (x_nilCheck (.tmp rfl rfl))) ?_
 refine t_fr (k:=12) (v:=.pointer (some ⟨x.a,0 + 1,none⟩)) rfl (fun w _ => (fa67_1 (.tmp rfl rfl))) ?_
 refine t_st (k:=13) (v:=.slice x.A x.ln x.lc) rfl rfl (fun w hs => (ld64 (.tmp rfl rfl) (hs.cell 2 rfl (0 + 1) rfl))) ?_
 refine t_fr (k:=14) (v:=.pointer (some ⟨g136,0 + 0,none⟩)) rfl (fun w _ => (fa53_0 (.tmp rfl rfl))) ?_
 refine t_st (k:=15) (v:=.int .i64 e101.To) rfl rfl (fun w hs => (ld3 (.tmp rfl rfl) (hs.cell 0 rfl (0 + 0) rfl))) ?_
 refine t_st (k:=16) (v:=.pointer (some ⟨b148,(o149 + e101.To.toNat * 1),none⟩)) rfl rfl (fun w hs => (ixo64 (.tmp rfl rfl) hA152 (i:=e101.To) (.tmp rfl rfl) (by omega) (by omega) (by omega))) ?_
 refine t_st (k:=17) (v:=.pointer (some ⟨e147,0,none⟩)) rfl rfl (fun w hs => (ld23 (.tmp rfl rfl) ((hat154x hs).cell 0 rfl))) ?_
 refine t_eff (k:=18) rfl ?_
 have hs158:St H _ (MM.res 78 81 37 mm155 ++ (obj g136 53 (clOut e101 A121 n122 c123 A126 n127 c128 A130 n131 c132)::obj g5 62 (clMove a)::obj x.a 67 [.int .i64 ((x.n:Nat):Int),.slice x.A x.ln x.lc,x.bv,x.vv]::row 53 16 x.bv x.bag.length x.bc::row 63 1 x.vv x.vs.length x.vc::memsR 78 81 37 (x.ms.eraseIdx e101.To.toNat) ++ (vrsR 39 x.vs ++ (L)))):=St.mmOut [obj g136 53 (clOut e101 A121 n122 c123 A126 n127 c128 A130 n131 c132),obj g5 62 (clMove a),obj x.a 67 [.int .i64 ((x.n:Nat):Int),.slice x.A x.ln x.lc,x.bv,x.vv],row 53 16 x.bv x.bag.length x.bc,row 63 1 x.vv x.vs.length x.vc] hs146 hm156
 refine st_c cb14 .func (evs1 (.tmp rfl (congrArg (fun z => Value.pointer (some ⟨z,0,none⟩)) hg157.symm))) (cur_mm hs158 (x:=mm155) (MsOk.get ok_x.mok hm156) ) ?_
 rintro e w159 ⟨cs161,rfl,hr162,hs160⟩
 obtain ⟨rfl,b163,⟨b164,b165⟩,b166⟩:=hr162
 refine ⟨_,rfl,?_⟩
 have hs167:St H _ (obj g136 53 (clOut e101 A121 n122 c123 A126 n127 c128 A130 n131 c132)::obj g5 62 (clMove a)::obj x.a 67 [.int .i64 ((x.n:Nat):Int),.slice x.A x.ln x.lc,x.bv,x.vv]::row 53 16 x.bv x.bag.length x.bc::row 63 1 x.vv x.vs.length x.vc::memsR 78 81 37 x.ms ++ (vrsR 39 x.vs ++ (L))):=St.mmBack [obj g136 53 (clOut e101 A121 n122 c123 A126 n127 c128 A130 n131 c132),obj g5 62 (clMove a),obj x.a 67 [.int .i64 ((x.n:Nat):Int),.slice x.A x.ln x.lc,x.bv,x.vv],row 53 16 x.bv x.bag.length x.bc,row 63 1 x.vv x.vs.length x.vc] hs160 hm156
 refine t_on (S':=fun u => St H u (obj g136 53 (clOut e101 A121 n122 c123 A126 n127 c128 A130 n131 c132)::obj g5 62 (clMove a)::obj x.a 67 [.int .i64 ((x.n:Nat):Int),.slice x.A x.ln x.lc,x.bv,x.vv]::row 53 16 x.bv x.bag.length x.bc::row 63 1 x.vv x.vs.length x.vc::L)) (fun u hu => hu) (St.dropL [obj g136 53 (clOut e101 A121 n122 c123 A126 n127 c128 A130 n131 c132),obj g5 62 (clMove a),obj x.a 67 [.int .i64 ((x.n:Nat):Int),.slice x.A x.ln x.lc,x.bv,x.vv],row 53 16 x.bv x.bag.length x.bc,row 63 1 x.vv x.vs.length x.vc] (St.dropL [obj g136 53 (clOut e101 A121 n122 c123 A126 n127 c128 A130 n131 c132),obj g5 62 (clMove a),obj x.a 67 [.int .i64 ((x.n:Nat):Int),.slice x.A x.ln x.lc,x.bv,x.vv],row 53 16 x.bv x.bag.length x.bc,row 63 1 x.vv x.vs.length x.vc] hs167)) ?_
 refine t_st (k:=19) (v:=.agg #[.int .u64 ((mm155.m.cur.ID.N:Nat):Int),.int .i64 mm155.m.cur.ID.P]) rfl rfl (fun w hs => (x_field Tryd.underlying39 rfl (.tmp rfl rfl) (fun w => (part_agg (by kernel_rfl) inf34 rfl)))) ?_
 refine t_st (k:=20) (v:=.agg #[.int .u64 ((mm155.m.cur.ID.N:Nat):Int),.int .i64 mm155.m.cur.ID.P,.int .i64 0,.slice none 0 0]) rfl rfl (fun w hs => (bl37 (ps:=[(0,.agg #[.int .u64 ((mm155.m.cur.ID.N:Nat):Int),.int .i64 mm155.m.cur.ID.P])]) (.cons (.tmp rfl rfl) Evp.nil) rfl)) ?_
 refine t_eff (k:=21) rfl ?_
 have hs168:St H _ (MM.res 78 81 37 mm155 ++ (obj g136 53 (clOut e101 A121 n122 c123 A126 n127 c128 A130 n131 c132)::obj g5 62 (clMove a)::obj x.a 67 [.int .i64 ((x.n:Nat):Int),.slice x.A x.ln x.lc,x.bv,x.vv]::row 53 16 x.bv x.bag.length x.bc::row 63 1 x.vv x.vs.length x.vc::memsR 78 81 37 (x.ms.eraseIdx e101.To.toNat) ++ (vrsR 39 x.vs ++ (L)))):=St.mmOut [obj g136 53 (clOut e101 A121 n122 c123 A126 n127 c128 A130 n131 c132),obj g5 62 (clMove a),obj x.a 67 [.int .i64 ((x.n:Nat):Int),.slice x.A x.ln x.lc,x.bv,x.vv],row 53 16 x.bv x.bag.length x.bc,row 63 1 x.vv x.vs.length x.vc] hs167 hm156
 have hr169:kFrame.rep H e101.F [.int .u8 ((e101.F.Kind:Nat):Int),.int .i64 e101.F.From,.int .u64 ((e101.F.ID.N:Nat):Int),.int .i64 e101.F.ID.P,.int .u16 ((e101.F.Set:Nat):Int),.int .u64 ((e101.F.Cur.N:Nat):Int),.int .i64 e101.F.Cur.P,.int .u64 ((e101.F.Prom.N:Nat):Int),.int .i64 e101.F.Prom.P,.slice A121 n122 c123,.int .u64 ((e101.F.Base:Nat):Int),.slice A126 n127 c128,.slice A130 n131 c132,.int .u64 ((e101.F.Ack:Nat):Int),.int .u64 ((e101.F.Safe:Nat):Int)]:=⟨A121,n122,c123,A126,n127,c128,A130,n131,c132,rfl,b108,⟨b109,b110⟩,b111,⟨b112,b113⟩,b114,b115,⟨b116,b117⟩,b118,⟨b119,b120⟩,hl124,b125,hl129,hl133,b134,b135⟩
 have hr170:kState.rep H (GState.mk mm155.m.cur.ID 0 []) [.int .u64 ((mm155.m.cur.ID.N:Nat):Int),.int .i64 mm155.m.cur.ID.P,.int .i64 0,.slice none 0 0]:=⟨none,0,0,rfl,b163,⟨b164,b165⟩,(show IB 0 from ⟨by omega,by omega⟩),(Sl.nil _ _ none)⟩
 refine st_c cb17 .func (evs3 (.tmp rfl (congrArg (fun z => Value.pointer (some ⟨z,0,none⟩)) hg157.symm)) (.tmp rfl rfl) (.tmp rfl rfl)) (in_mm hs168 (x:=mm155) (MsOk.get ok_x.mok hm156) e101.F hr169 (GState.mk mm155.m.cur.ID 0 []) hr170 (gok_pr hg hx103 hm156) htab) ?_
 rintro e w171 ⟨H173,v175,cs178,iv180,mm182,hle174,rfl,ok176,hk179,hin181,mok183,hmg184,hmm185,hs172⟩
 refine ⟨_,rfl,?_⟩
 have hs187:=St.upL [row 53 16 v175 (((MB.inn mm155.m e101.F (GState.mk mm155.m.cur.ID 0 [])).2.1).length) cs178] hs172
 have hs186:St H173 _ (row 53 16 v175 (((MB.inn mm155.m e101.F (GState.mk mm155.m.cur.ID 0 [])).2.1).length) cs178::obj g136 53 (clOut e101 A121 n122 c123 A126 n127 c128 A130 n131 c132)::obj g5 62 (clMove a)::obj x.a 67 [.int .i64 ((x.n:Nat):Int),.slice x.A x.ln x.lc,x.bv,x.vv]::row 53 16 x.bv x.bag.length x.bc::row 63 1 x.vv x.vs.length x.vc::memsR 78 81 37 (x.ms.set e101.To.toNat mm182) ++ (vrsR 39 x.vs ++ (L))):=St.mmIn (y:=mm182) [row 53 16 v175 (((MB.inn mm155.m e101.F (GState.mk mm155.m.cur.ID 0 [])).2.1).length) cs178,obj g136 53 (clOut e101 A121 n122 c123 A126 n127 c128 A130 n131 c132),obj g5 62 (clMove a),obj x.a 67 [.int .i64 ((x.n:Nat):Int),.slice x.A x.ln x.lc,x.bv,x.vv],row 53 16 x.bv x.bag.length x.bc,row 63 1 x.vv x.vs.length x.vc] hs187 hm156
 refine t_new (S':=fun u => St H173 u (row 53 16 v175 (((MB.inn mm155.m e101.F (GState.mk mm155.m.cur.ID 0 [])).2.1).length) cs178::obj g136 53 (clOut e101 A121 n122 c123 A126 n127 c128 A130 n131 c132)::obj g5 62 (clMove a)::obj x.a 67 [.int .i64 ((x.n:Nat):Int),.slice x.A x.ln x.lc,x.bv,x.vv]::row 53 16 x.bv x.bag.length x.bc::row 63 1 x.vv x.vs.length x.vc::L)) rfl (St.dropL [row 53 16 v175 (((MB.inn mm155.m e101.F (GState.mk mm155.m.cur.ID 0 [])).2.1).length) cs178,obj g136 53 (clOut e101 A121 n122 c123 A126 n127 c128 A130 n131 c132),obj g5 62 (clMove a),obj x.a 67 [.int .i64 ((x.n:Nat):Int),.slice x.A x.ln x.lc,x.bv,x.vv],row 53 16 x.bv x.bag.length x.bc,row 63 1 x.vv x.vs.length x.vc] (St.dropL [row 53 16 v175 (((MB.inn mm155.m e101.F (GState.mk mm155.m.cur.ID 0 [])).2.1).length) cs178,obj g136 53 (clOut e101 A121 n122 c123 A126 n127 c128 A130 n131 c132),obj g5 62 (clMove a),obj x.a 67 [.int .i64 ((x.n:Nat):Int),.slice x.A x.ln x.lc,x.bv,x.vv],row 53 16 x.bv x.bag.length x.bc,row 63 1 x.vv x.vs.length x.vc] hs186)) ?_
 refine t_st (k:=22) (v:=.tuple #[v175,iv180,.int .i64 ((MB.inn mm155.m e101.F (GState.mk mm155.m.cur.ID 0 [])).2.2.2)]) rfl rfl (fun w hs => (x_move (.tmp rfl rfl))) ?_
 refine t_st (k:=23) (v:=v175) rfl rfl (fun w hs => (x_extract (.tmp rfl rfl) (i:=0) rfl)) ?_
 refine t_st (k:=24) (v:=iv180) rfl rfl (fun w hs => (x_extract (.tmp rfl rfl) (i:=1) rfl)) ?_
 refine t_st (k:=25) (v:=.int .i64 ((MB.inn mm155.m e101.F (GState.mk mm155.m.cur.ID 0 [])).2.2.2)) rfl rfl (fun w hs => (x_extract (.tmp rfl rfl) (i:=2) rfl)) ?_
 refine t_st (k:=26) (v:=v175) rfl rfl (fun w hs => (x_assign (.tmp rfl rfl))) ?_
 refine t_st (k:=27) (v:=iv180) rfl rfl (fun w hs => (x_assign (.tmp rfl rfl))) ?_
 refine t_st (k:=28) (v:=.int .i64 ((MB.inn mm155.m e101.F (GState.mk mm155.m.cur.ID 0 [])).2.2.2)) rfl rfl (fun w hs => (x_assign (.tmp rfl rfl))) ?_
 refine t_nil ?_
 refine n_then (c_region ?_)
 have hl16:=gok_in hg hx103 hm156
 refine st (v:=.pointer (some ⟨x.a,0,none⟩)) (x_move (.tmp rfl rfl)) ?_
 refine st (v:=.pointer (some ⟨g136,0 + 0,none⟩)) (fa53_0 (.tmp rfl rfl)) ?_
 refine st (v:=.int .i64 e101.To) (ld3 (.tmp rfl rfl) (hs186.cell 1 rfl (0 + 0) rfl)) ?_
 refine st (v:=v175) (x_move (.tmp rfl rfl)) ?_
 refine st (v:=iv180) (x_move (.tmp rfl rfl)) ?_
 have:((MB.inn mm155.m e101.F (GState.mk mm155.m.cur.ID 0 [])).2.1).length * 192 ≤ 140737488351232:=by omega
 obtain ⟨H188,A189,c190,hle191,hs192,rfl,sp193⟩:=hs186.freezeSl (d:=kOut) ok176 hk179 this
 have:=sp193.len; have:=sp193.le
 have hs194:=hs192.p4
 have hs195:=hs194.p4
 have hs196:=hs195.p4
 have okg198:GR.ok (GR.mk x.n (x.ms.set e101.To.toNat mm182) x.bag x.vs x.a x.A x.ln x.lc x.bv x.bc x.vv x.vc) H188:=⟨(MsOk.mono (MsOk.set (MsOk.mono ok_x.mok hle174) hm156 mok183 hmg184) hle191),(by show Sl kPtr _ _ _ _ (ptrs (x.ms.set e101.To.toNat mm182)); rw [(ptrs_set hm156 hmg184)]; exact ((ok_x.l.mono hle174).mono hle191)),ok_x.bok,(Kn.rows_mono (Kn.rows_mono ok_x.bhk hle174) hle191),ok_x.vok,(Kn.rows_mono (Kn.rows_mono ok_x.vhk hle174) hle191)⟩
 have hs197:St H188 _ (GR.res 67 53 63 39 78 81 37 (GR.mk x.n (x.ms.set e101.To.toNat mm182) x.bag x.vs x.a x.A x.ln x.lc x.bv x.bc x.vv x.vc) ++ (obj g136 53 (clOut e101 A121 n122 c123 A126 n127 c128 A130 n131 c132)::obj g5 62 (clMove a)::L)):=St.grpShut (x:=(GR.mk x.n (x.ms.set e101.To.toNat mm182) x.bag x.vs x.a x.A x.ln x.lc x.bv x.bc x.vv x.vc)) [obj g136 53 (clOut e101 A121 n122 c123 A126 n127 c128 A130 n131 c132),obj g5 62 (clMove a)] hs196
 refine st_c cb35 .func (evs4 (.tmp rfl rfl) (.tmp rfl rfl) (.tmp rfl rfl) (.tmp rfl rfl)) (post_spec hs197 (x:=(GR.mk x.n (x.ms.set e101.To.toNat mm182) x.bag x.vs x.a x.A x.ln x.lc x.bv x.bc x.vv x.vc)) okg198 e101.To ⟨b106,b107⟩ ((MB.inn mm155.m e101.F (GState.mk mm155.m.cur.ID 0 [])).2.1) sp193 iv180 ((MB.inn mm155.m e101.F (GState.mk mm155.m.cur.ID 0 [])).2.2.1) (hin181.mono hle191) (by omega) (by show _ < x.vs.length; omega) (by dsimp only; first | omega | (simp only [List.length_append,List.length_take,List.length_drop]; omega)) (gok_in hg hx103 hm156) (gok_vl (x:=x) hg)) ?_
 rintro e w199 ⟨H201,gr203,hle202,rfl,okg204,hga205,hgn206,hgg207,hs200⟩
 refine ⟨_,rfl,?_⟩
 have hs208:St H201 _ (obj gr203.a 67 [.int .i64 ((gr203.n:Nat):Int),.slice gr203.A gr203.ln gr203.lc,gr203.bv,gr203.vv]::row 53 16 gr203.bv gr203.bag.length gr203.bc::row 63 1 gr203.vv gr203.vs.length gr203.vc::obj g136 53 (clOut e101 A121 n122 c123 A126 n127 c128 A130 n131 c132)::obj g5 62 (clMove a)::memsR 78 81 37 gr203.ms ++ (vrsR 39 gr203.vs ++ (L))):=St.grpOpen [obj g136 53 (clOut e101 A121 n122 c123 A126 n127 c128 A130 n131 c132),obj g5 62 (clMove a)] hs200
 refine c_nil (n_block (leave_end (res_none rfl) ?_))
 have hs209:=hs208.p2
 have hs210:=hs209.p2
 have hs211:=hs210.p2
 have okg213:GR.ok gr203 H201:=⟨okg204.mok,okg204.l,okg204.bok,okg204.bhk,okg204.vok,okg204.vhk⟩
 have hs212:St H201 _ (GR.res 67 53 63 39 78 81 37 gr203 ++ (obj g136 53 (clOut e101 A121 n122 c123 A126 n127 c128 A130 n131 c132)::obj g5 62 (clMove a)::L)):=St.grpShut (x:=gr203) [obj g136 53 (clOut e101 A121 n122 c123 A126 n127 c128 A130 n131 c132),obj g5 62 (clMove a)] hs211
 have hs214:St H201 _ (obj g136 53 (clOut e101 A121 n122 c123 A126 n127 c128 A130 n131 c132)::obj g5 62 (clMove a)::GR.res 67 53 63 39 78 81 37 gr203 ++ (L)):=St.downL [obj g136 53 (clOut e101 A121 n122 c123 A126 n127 c128 A130 n131 c132),obj g5 62 (clMove a)] hs212
 exact ⟨H201,gr203,((hle174.trans hle191).trans hle202),rfl,okg213,hga205,hgn206,(hgg207.trans (mv_in (by omega) (by omega) (by omega) (bag_keep (by simpa using hc143)) hx103 hm156 hmm185)),hs214.drop.drop⟩
 have hp144:¬ (((((a.Kind % 9):Nat):Int):Int) < 7):=of_decide_eq_false hc144
 refine c_cond_f (t:=false) (.tmp rfl (cVb hc144)) rfl ?_
 refine c_skip (n_block (leave_end (res_none rfl) ?_))
 have hs215:=hs142.p4
 have hs216:=hs215.p4
 have hs217:=hs216.p4
 have okg219:GR.ok x H:=⟨ok_x.mok,ok_x.l,ok_x.bok,ok_x.bhk,ok_x.vok,ok_x.vhk⟩
 have hs218:St H _ (GR.res 67 53 63 39 78 81 37 x ++ (obj g136 53 (clOut e101 A121 n122 c123 A126 n127 c128 A130 n131 c132)::obj g5 62 (clMove a)::L)):=St.grpShut (x:=x) [obj g136 53 (clOut e101 A121 n122 c123 A126 n127 c128 A130 n131 c132),obj g5 62 (clMove a)] hs217
 have hs220:St H _ (obj g136 53 (clOut e101 A121 n122 c123 A126 n127 c128 A130 n131 c132)::obj g5 62 (clMove a)::GR.res 67 53 63 39 78 81 37 x ++ (L)):=St.downL [obj g136 53 (clOut e101 A121 n122 c123 A126 n127 c128 A130 n131 c132),obj g5 62 (clMove a)] hs218
 exact ⟨H,x,(Hp.le.refl _),rfl,okg219,rfl,rfl,(mv_drop (by omega) (by omega) (by omega) (bag_keep (by simpa using hc143))),hs220.drop.drop⟩
 refine c_cond_t (t:=true) (.tmp rfl (cVb (by rw [hc143]; rfl))) rfl ?_
 refine c_seq (c_region (st (v:=.slice none 0 0) (x_assign .const) ?_))
 refine c_nil (n_then (c_seq (c_region (st (v:=.slice none 0 0) (x_move (.tmp rfl rfl)) ?_))))
 refine st (v:=.pointer (some ⟨x.a,0,none⟩)) (x_move (.tmp rfl rfl)) ?_
 refine st (v:=.pointer (some ⟨x.a,0,none⟩)) (x_nilCheck (.tmp rfl rfl)) ?_
 refine st (v:=.pointer (some ⟨x.a,0 + 2,none⟩)) (fa67_2 (.tmp rfl rfl)) ?_
 refine st (v:=x.bv) (ld27 (.tmp rfl rfl) (hs142.cell 2 rfl (0 + 2) rfl)) ?_
 refine st (v:=.int .i64 (((a.Est % x.bag.length):Nat):Int)) (x_move (.tmp rfl rfl)) ?_
 have hs221:=hs142.p3
 have:x.bag.length * 192 ≤ 140737488351232:=by omega
 obtain ⟨H222,A223,c224,hle225,hs226,hv_g_bag,sp227⟩:=hs221.freezeSl (d:=kOut) ok_x.bok ok_x.bhk this
 have:=sp227.len; have:=sp227.le
 rw [hv_g_bag] at hs226
 refine st (v:=.slice A223 (a.Est % x.bag.length) c224) (sl_h (d:=kOut) Tryd.underlying27 inf53 (a:=(((a.Est % x.bag.length):Nat):Int)) (.tmp rfl hv_g_bag) (.tmp rfl rfl) (by omega) (by omega)) ?_
 have hs228:=hs226.krowNil 53 kOut
 have:([]:List GOut).length = 0:=rfl
 refine st_m (m_appSl (d:=kOut) (ys:=(x.bag.take (a.Est % x.bag.length))) Tryd.underlying27 inf53 rfl hs228 (RowOk.knil kOut) (Kn.rows_nil _ _) (.tmp rfl rfl) (.tmp rfl rfl) (sp227.take (k:=(a.Est % x.bag.length)) (by omega)) (by omega) (by decide)) ?_
 rintro v230 w231 ⟨cs232,ok233,hk234,hs235⟩
 have hn236:(([]:List GOut) ++ (x.bag.take (a.Est % x.bag.length))).length = ([]:List GOut).length + (a.Est % x.bag.length):=by rw [List.length_append,(sp227.take (k:=(a.Est % x.bag.length)) (by omega)).len]
 have hn236:(x.bag.take (a.Est % x.bag.length)).length = (a.Est % x.bag.length):=(sp227.take (k:=(a.Est % x.bag.length)) (by omega)).len
 have ok233:RowOk kOut.sz v230 (x.bag.take (a.Est % x.bag.length)).length cs232:=ok233
 have hk234:kOut.toKn.rows H222 (x.bag.take (a.Est % x.bag.length)) cs232:=hk234
 have hs235:St H222 _ (row 53 16 v230 ((x.bag.take (a.Est % x.bag.length)).length) cs232::obj g136 53 (clOut e101 A121 n122 c123 A126 n127 c128 A130 n131 c132)::obj g5 62 (clMove a)::obj x.a 67 [.int .i64 ((x.n:Nat):Int),.slice x.A x.ln x.lc,.slice A223 x.bag.length c224,x.vv]::row 63 1 x.vv x.vs.length x.vc::memsR 78 81 37 x.ms ++ (vrsR 39 x.vs ++ (L))):=hs235
 refine st (v:=v230) (x_assign (.tmp rfl rfl)) ?_
 refine c_nil (n_then (c_region (st (v:=.pointer (some ⟨x.a,0,none⟩)) (x_move (.tmp rfl rfl)) ?_)))
 refine st (v:=v230) (x_move (.tmp rfl rfl)) ?_
 refine st (v:=.pointer (some ⟨x.a,0,none⟩)) (x_move (.tmp rfl rfl)) ?_
 refine st (v:=.pointer (some ⟨x.a,0,none⟩)) (x_nilCheck (.tmp rfl rfl)) ?_
 refine st (v:=.pointer (some ⟨x.a,0 + 2,none⟩)) (fa67_2 (.tmp rfl rfl)) ?_
 refine st (v:=.slice A223 x.bag.length c224) (ld27 (.tmp rfl rfl) (hs235.cell 3 rfl (0 + 2) rfl)) ?_
 refine st (v:=.int .i64 (((a.Est % x.bag.length):Nat):Int)) (x_move (.tmp rfl rfl)) ?_
 refine st (v:=.int .i64 ((((a.Est % x.bag.length) + 1):Nat):Int)) (x_add (k:=.i64) (a:=(((a.Est % x.bag.length):Nat):Int)) (b:=1) (.tmp rfl rfl) .const ((w64 (by omega) (by omega)).trans (by omega))) ?_
 refine st (v:=.slice (cutA A223 c224 ((a.Est % x.bag.length) + 1) 16) (x.bag.length - ((a.Est % x.bag.length) + 1)) (c224 - ((a.Est % x.bag.length) + 1))) (sl_l (d:=kOut) Tryd.underlying27 inf53 (a:=((((a.Est % x.bag.length) + 1):Nat):Int)) (.tmp rfl rfl) (.tmp rfl rfl) (by omega) (by omega) (by omega)) ?_
 refine st_m (m_appSl (d:=kOut) (ys:=(x.bag.drop ((a.Est % x.bag.length) + 1))) Tryd.underlying27 inf53 rfl hs235 ok233 hk234 (.tmp rfl rfl) (.tmp rfl rfl) (sp227.drop (k:=((a.Est % x.bag.length) + 1)) (by omega)) (by omega) (by decide)) ?_
 rintro v237 w238 ⟨cs239,ok240,hk241,hs242⟩
 have hn243:((x.bag.take (a.Est % x.bag.length)) ++ (x.bag.drop ((a.Est % x.bag.length) + 1))).length = (x.bag.take (a.Est % x.bag.length)).length + (x.bag.length - ((a.Est % x.bag.length) + 1)):=by rw [List.length_append,(sp227.drop (k:=((a.Est % x.bag.length) + 1)) (by omega)).len]
 refine st (v:=.pointer (some ⟨x.a,0,none⟩)) (x_nilCheck (.tmp rfl rfl)) ?_
 refine st (v:=.pointer (some ⟨x.a,0 + 2,none⟩)) (fa67_2 (.tmp rfl rfl)) ?_
 obtain ⟨A244,c245,rfl,hc246⟩:=ok240.slice
 have hs247:=hs242.p3
 refine st_m0 (sto27 (cs':=[.int .i64 ((x.n:Nat):Int),.slice x.A x.ln x.lc,.slice A244 (((x.bag.take (a.Est % x.bag.length)) ++ (x.bag.drop ((a.Est % x.bag.length) + 1))).length) c245,x.vv]) (i:=0 + 2) hs247 (v:=.slice A244 (((x.bag.take (a.Est % x.bag.length)) ++ (x.bag.drop ((a.Est % x.bag.length) + 1))).length) c245) (.tmp rfl rfl) (.tmp rfl rfl) rfl (Nat.le_of_ble_eq_true rfl) one1 rfl) ?_
 rintro w248 hs250
 refine c_nil (n_then (c_seq (c_region (st (v:=.int .u8 (((a.Kind % 9):Nat):Int)) (x_move (.tmp rfl rfl)) ?_))))
 refine st (v:=.bool (decide (((((a.Kind % 9):Nat):Int):Int) < 7))) (x_lss (k:=.u8) (a:=(((a.Kind % 9):Nat):Int)) (b:=7) (.tmp rfl rfl) .const) ?_
 refine c_nil (n_then ?_)
 rcases Bool.eq_false_or_eq_true (decide (((((a.Kind % 9):Nat):Int):Int) < 7)) with hc251 | hc251
 have hp251:((((a.Kind % 9):Nat):Int):Int) < 7:=of_decide_eq_true hc251
 refine c_cond_t (t:=true) (.tmp rfl (cVb hc251)) rfl ?_
 refine c_seq (t_region (L:=obj x.a 67 [.int .i64 ((x.n:Nat):Int),.slice x.A x.ln x.lc,.slice A244 (((x.bag.take (a.Est % x.bag.length)) ++ (x.bag.drop ((a.Est % x.bag.length) + 1))).length) c245,x.vv]::row 53 16 (.slice A244 (((x.bag.take (a.Est % x.bag.length)) ++ (x.bag.drop ((a.Est % x.bag.length) + 1))).length) c245) (((x.bag.take (a.Est % x.bag.length)) ++ (x.bag.drop ((a.Est % x.bag.length) + 1))).length) cs239::obj g136 53 (clOut e101 A121 n122 c123 A126 n127 c128 A130 n131 c132)::obj g5 62 (clMove a)::row 63 1 x.vv x.vs.length x.vc::memsR 78 81 37 x.ms ++ (vrsR 39 x.vs ++ (L))) (L':=obj x.a 67 [.int .i64 ((x.n:Nat):Int),.slice x.A x.ln x.lc,.slice A244 (((x.bag.take (a.Est % x.bag.length)) ++ (x.bag.drop ((a.Est % x.bag.length) + 1))).length) c245,x.vv]::row 53 16 (.slice A244 (((x.bag.take (a.Est % x.bag.length)) ++ (x.bag.drop ((a.Est % x.bag.length) + 1))).length) c245) (((x.bag.take (a.Est % x.bag.length)) ++ (x.bag.drop ((a.Est % x.bag.length) + 1))).length) cs239::obj g136 53 (clOut e101 A121 n122 c123 A126 n127 c128 A130 n131 c132)::obj g5 62 (clMove a)::row 63 1 x.vv x.vs.length x.vc::L) (Z:=[21]) (F:=[0,1,10,11,12,14]) (pl:=(.q 0 (.q 1 (.q 2 (.q 3 (.q 4 (.q 5 (.q 6 (.q 7 (.q 8 (.q 9 (.q 10 (.q 11 (.q 12 (.q 13 (.q 14 (.q 15 (.q 16 (.q 17 (.e 18 (.q 19 (.q 20 (.e 21 (.q 22 (.q 23 (.q 24 (.q 25 (.q 26 (.q 27 (.q 28 .done)))))))))))))))))))))))))))))) mixed hs250 (fun u hu => (St.dropL [obj x.a 67 [.int .i64 ((x.n:Nat):Int),.slice x.A x.ln x.lc,.slice A244 (((x.bag.take (a.Est % x.bag.length)) ++ (x.bag.drop ((a.Est % x.bag.length) + 1))).length) c245,x.vv],row 53 16 (.slice A244 (((x.bag.take (a.Est % x.bag.length)) ++ (x.bag.drop ((a.Est % x.bag.length) + 1))).length) c245) (((x.bag.take (a.Est % x.bag.length)) ++ (x.bag.drop ((a.Est % x.bag.length) + 1))).length) cs239,obj g136 53 (clOut e101 A121 n122 c123 A126 n127 c128 A130 n131 c132),obj g5 62 (clMove a),row 63 1 x.vv x.vs.length x.vc] (St.dropL [obj x.a 67 [.int .i64 ((x.n:Nat):Int),.slice x.A x.ln x.lc,.slice A244 (((x.bag.take (a.Est % x.bag.length)) ++ (x.bag.drop ((a.Est % x.bag.length) + 1))).length) c245,x.vv],row 53 16 (.slice A244 (((x.bag.take (a.Est % x.bag.length)) ++ (x.bag.drop ((a.Est % x.bag.length) + 1))).length) c245) (((x.bag.take (a.Est % x.bag.length)) ++ (x.bag.drop ((a.Est % x.bag.length) + 1))).length) cs239,obj g136 53 (clOut e101 A121 n122 c123 A126 n127 c128 A130 n131 c132),obj g5 62 (clMove a),row 63 1 x.vv x.vs.length x.vc] hu))) (by kernel_rfl) ?_)
 intro w252 hs253
 refine t_fr (k:=0) (v:=.pointer (some ⟨x.a,0,none⟩)) rfl (fun w _ => (x_move (.tmp rfl rfl))) ?_
 refine t_fr (k:=1) (v:=.pointer (some ⟨x.a,0,none⟩)) rfl (fun w _ => (x_nilCheck (.tmp rfl rfl))) ?_
 refine t_st (k:=2) (v:=.pointer (some ⟨x.a,0 + 1,none⟩)) rfl rfl (fun w hs => (fa67_1 (.tmp rfl rfl))) ?_
 refine t_st (k:=3) (v:=.slice x.A x.ln x.lc) rfl rfl (fun w hs => (ld64 (.tmp rfl rfl) (hs.cell 0 rfl (0 + 1) rfl))) ?_
 refine t_st (k:=4) (v:=.pointer (some ⟨g136,0 + 0,none⟩)) rfl rfl (fun w hs => (fa53_0 (.tmp rfl rfl))) ?_
 refine t_st (k:=5) (v:=.int .i64 e101.To) rfl rfl (fun w hs => (ld3 (.tmp rfl rfl) (hs.cell 2 rfl (0 + 0) rfl))) ?_
 obtain ⟨e254,b255,o256,cs257,hx258,hA259,hr260,hat261⟩:=(ok_x.l.mono hle225).get (i:=e101.To.toNat) (by omega)
 obtain ⟨rfl⟩:=hr260
 have hat261x:∀ {w:World} {L:List Res},St H222 w L → At w ⟨b255,o256 + e101.To.toNat * 1,none⟩ [.pointer (some ⟨e254,0,none⟩)]:=fun h => hat261 h
 obtain ⟨mm262,hm263,hg264⟩:=ptr_at hx258
 refine t_st (k:=6) (v:=.pointer (some ⟨b255,(o256 + e101.To.toNat * 1),none⟩)) rfl rfl (fun w hs => (ixo64 (.tmp rfl rfl) hA259 (i:=e101.To) (.tmp rfl rfl) (by omega) (by omega) (by omega))) ?_
 refine t_st (k:=7) (v:=.pointer (some ⟨e254,0,none⟩)) rfl rfl (fun w hs => (ld23 (.tmp rfl rfl) ((hat261x hs).cell 0 rfl))) ?_
 refine t_st (k:=8) (v:=.pointer (some ⟨g136,0 + 1,none⟩)) rfl rfl (fun w hs => (fa53_1 (.tmp rfl rfl))) ?_
 refine t_st (k:=9) (v:=.agg #[.int .u8 ((e101.F.Kind:Nat):Int),.int .i64 e101.F.From,.int .u64 ((e101.F.ID.N:Nat):Int),.int .i64 e101.F.ID.P,.int .u16 ((e101.F.Set:Nat):Int),.int .u64 ((e101.F.Cur.N:Nat):Int),.int .i64 e101.F.Cur.P,.int .u64 ((e101.F.Prom.N:Nat):Int),.int .i64 e101.F.Prom.P,.slice A121 n122 c123,.int .u64 ((e101.F.Base:Nat):Int),.slice A126 n127 c128,.slice A130 n131 c132,.int .u64 ((e101.F.Ack:Nat):Int),.int .u64 ((e101.F.Safe:Nat):Int)]) rfl rfl (fun w hs => (ld51 (cs:=[.int .u8 ((e101.F.Kind:Nat):Int),.int .i64 e101.F.From,.int .u64 ((e101.F.ID.N:Nat):Int),.int .i64 e101.F.ID.P,.int .u16 ((e101.F.Set:Nat):Int),.int .u64 ((e101.F.Cur.N:Nat):Int),.int .i64 e101.F.Cur.P,.int .u64 ((e101.F.Prom.N:Nat):Int),.int .i64 e101.F.Prom.P,.slice A121 n122 c123,.int .u64 ((e101.F.Base:Nat):Int),.slice A126 n127 c128,.slice A130 n131 c132,.int .u64 ((e101.F.Ack:Nat):Int),.int .u64 ((e101.F.Safe:Nat):Int)]) (.tmp rfl rfl) (hs.at_ 2 rfl (0 + 1) rfl) rfl)) ?_
 refine t_fr (k:=10) (v:=.pointer (some ⟨x.a,0,none⟩)) rfl (fun w _ => (x_move (.tmp rfl rfl))) ?_
 refine t_fr (k:=11) (v:=.pointer (some ⟨x.a,0,none⟩)) rfl (fun w _ => (x_nilCheck (.tmp rfl rfl))) ?_
 refine t_fr (k:=12) (v:=.pointer (some ⟨x.a,0 + 1,none⟩)) rfl (fun w _ => (fa67_1 (.tmp rfl rfl))) ?_
 refine t_st (k:=13) (v:=.slice x.A x.ln x.lc) rfl rfl (fun w hs => (ld64 (.tmp rfl rfl) (hs.cell 0 rfl (0 + 1) rfl))) ?_
 refine t_fr (k:=14) (v:=.pointer (some ⟨g136,0 + 0,none⟩)) rfl (fun w _ => (fa53_0 (.tmp rfl rfl))) ?_
 refine t_st (k:=15) (v:=.int .i64 e101.To) rfl rfl (fun w hs => (ld3 (.tmp rfl rfl) (hs.cell 2 rfl (0 + 0) rfl))) ?_
 refine t_st (k:=16) (v:=.pointer (some ⟨b255,(o256 + e101.To.toNat * 1),none⟩)) rfl rfl (fun w hs => (ixo64 (.tmp rfl rfl) hA259 (i:=e101.To) (.tmp rfl rfl) (by omega) (by omega) (by omega))) ?_
 refine t_st (k:=17) (v:=.pointer (some ⟨e254,0,none⟩)) rfl rfl (fun w hs => (ld23 (.tmp rfl rfl) ((hat261x hs).cell 0 rfl))) ?_
 refine t_eff (k:=18) rfl ?_
 have hs265:St H222 _ (MM.res 78 81 37 mm262 ++ (obj x.a 67 [.int .i64 ((x.n:Nat):Int),.slice x.A x.ln x.lc,.slice A244 (((x.bag.take (a.Est % x.bag.length)) ++ (x.bag.drop ((a.Est % x.bag.length) + 1))).length) c245,x.vv]::row 53 16 (.slice A244 (((x.bag.take (a.Est % x.bag.length)) ++ (x.bag.drop ((a.Est % x.bag.length) + 1))).length) c245) (((x.bag.take (a.Est % x.bag.length)) ++ (x.bag.drop ((a.Est % x.bag.length) + 1))).length) cs239::obj g136 53 (clOut e101 A121 n122 c123 A126 n127 c128 A130 n131 c132)::obj g5 62 (clMove a)::row 63 1 x.vv x.vs.length x.vc::memsR 78 81 37 (x.ms.eraseIdx e101.To.toNat) ++ (vrsR 39 x.vs ++ (L)))):=St.mmOut [obj x.a 67 [.int .i64 ((x.n:Nat):Int),.slice x.A x.ln x.lc,.slice A244 (((x.bag.take (a.Est % x.bag.length)) ++ (x.bag.drop ((a.Est % x.bag.length) + 1))).length) c245,x.vv],row 53 16 (.slice A244 (((x.bag.take (a.Est % x.bag.length)) ++ (x.bag.drop ((a.Est % x.bag.length) + 1))).length) c245) (((x.bag.take (a.Est % x.bag.length)) ++ (x.bag.drop ((a.Est % x.bag.length) + 1))).length) cs239,obj g136 53 (clOut e101 A121 n122 c123 A126 n127 c128 A130 n131 c132),obj g5 62 (clMove a),row 63 1 x.vv x.vs.length x.vc] hs253 hm263
 refine st_c cb14 .func (evs1 (.tmp rfl (congrArg (fun z => Value.pointer (some ⟨z,0,none⟩)) hg264.symm))) (cur_mm hs265 (x:=mm262) (MsOk.get (MsOk.mono ok_x.mok hle225) hm263) ) ?_
 rintro e w266 ⟨cs268,rfl,hr269,hs267⟩
 obtain ⟨rfl,b270,⟨b271,b272⟩,b273⟩:=hr269
 refine ⟨_,rfl,?_⟩
 have hs274:St H222 _ (obj x.a 67 [.int .i64 ((x.n:Nat):Int),.slice x.A x.ln x.lc,.slice A244 (((x.bag.take (a.Est % x.bag.length)) ++ (x.bag.drop ((a.Est % x.bag.length) + 1))).length) c245,x.vv]::row 53 16 (.slice A244 (((x.bag.take (a.Est % x.bag.length)) ++ (x.bag.drop ((a.Est % x.bag.length) + 1))).length) c245) (((x.bag.take (a.Est % x.bag.length)) ++ (x.bag.drop ((a.Est % x.bag.length) + 1))).length) cs239::obj g136 53 (clOut e101 A121 n122 c123 A126 n127 c128 A130 n131 c132)::obj g5 62 (clMove a)::row 63 1 x.vv x.vs.length x.vc::memsR 78 81 37 x.ms ++ (vrsR 39 x.vs ++ (L))):=St.mmBack [obj x.a 67 [.int .i64 ((x.n:Nat):Int),.slice x.A x.ln x.lc,.slice A244 (((x.bag.take (a.Est % x.bag.length)) ++ (x.bag.drop ((a.Est % x.bag.length) + 1))).length) c245,x.vv],row 53 16 (.slice A244 (((x.bag.take (a.Est % x.bag.length)) ++ (x.bag.drop ((a.Est % x.bag.length) + 1))).length) c245) (((x.bag.take (a.Est % x.bag.length)) ++ (x.bag.drop ((a.Est % x.bag.length) + 1))).length) cs239,obj g136 53 (clOut e101 A121 n122 c123 A126 n127 c128 A130 n131 c132),obj g5 62 (clMove a),row 63 1 x.vv x.vs.length x.vc] hs267 hm263
 refine t_on (S':=fun u => St H222 u (obj x.a 67 [.int .i64 ((x.n:Nat):Int),.slice x.A x.ln x.lc,.slice A244 (((x.bag.take (a.Est % x.bag.length)) ++ (x.bag.drop ((a.Est % x.bag.length) + 1))).length) c245,x.vv]::row 53 16 (.slice A244 (((x.bag.take (a.Est % x.bag.length)) ++ (x.bag.drop ((a.Est % x.bag.length) + 1))).length) c245) (((x.bag.take (a.Est % x.bag.length)) ++ (x.bag.drop ((a.Est % x.bag.length) + 1))).length) cs239::obj g136 53 (clOut e101 A121 n122 c123 A126 n127 c128 A130 n131 c132)::obj g5 62 (clMove a)::row 63 1 x.vv x.vs.length x.vc::L)) (fun u hu => hu) (St.dropL [obj x.a 67 [.int .i64 ((x.n:Nat):Int),.slice x.A x.ln x.lc,.slice A244 (((x.bag.take (a.Est % x.bag.length)) ++ (x.bag.drop ((a.Est % x.bag.length) + 1))).length) c245,x.vv],row 53 16 (.slice A244 (((x.bag.take (a.Est % x.bag.length)) ++ (x.bag.drop ((a.Est % x.bag.length) + 1))).length) c245) (((x.bag.take (a.Est % x.bag.length)) ++ (x.bag.drop ((a.Est % x.bag.length) + 1))).length) cs239,obj g136 53 (clOut e101 A121 n122 c123 A126 n127 c128 A130 n131 c132),obj g5 62 (clMove a),row 63 1 x.vv x.vs.length x.vc] (St.dropL [obj x.a 67 [.int .i64 ((x.n:Nat):Int),.slice x.A x.ln x.lc,.slice A244 (((x.bag.take (a.Est % x.bag.length)) ++ (x.bag.drop ((a.Est % x.bag.length) + 1))).length) c245,x.vv],row 53 16 (.slice A244 (((x.bag.take (a.Est % x.bag.length)) ++ (x.bag.drop ((a.Est % x.bag.length) + 1))).length) c245) (((x.bag.take (a.Est % x.bag.length)) ++ (x.bag.drop ((a.Est % x.bag.length) + 1))).length) cs239,obj g136 53 (clOut e101 A121 n122 c123 A126 n127 c128 A130 n131 c132),obj g5 62 (clMove a),row 63 1 x.vv x.vs.length x.vc] hs274)) ?_
 refine t_st (k:=19) (v:=.agg #[.int .u64 ((mm262.m.cur.ID.N:Nat):Int),.int .i64 mm262.m.cur.ID.P]) rfl rfl (fun w hs => (x_field Tryd.underlying39 rfl (.tmp rfl rfl) (fun w => (part_agg (by kernel_rfl) inf34 rfl)))) ?_
 refine t_st (k:=20) (v:=.agg #[.int .u64 ((mm262.m.cur.ID.N:Nat):Int),.int .i64 mm262.m.cur.ID.P,.int .i64 0,.slice none 0 0]) rfl rfl (fun w hs => (bl37 (ps:=[(0,.agg #[.int .u64 ((mm262.m.cur.ID.N:Nat):Int),.int .i64 mm262.m.cur.ID.P])]) (.cons (.tmp rfl rfl) Evp.nil) rfl)) ?_
 refine t_eff (k:=21) rfl ?_
 have hs275:St H222 _ (MM.res 78 81 37 mm262 ++ (obj x.a 67 [.int .i64 ((x.n:Nat):Int),.slice x.A x.ln x.lc,.slice A244 (((x.bag.take (a.Est % x.bag.length)) ++ (x.bag.drop ((a.Est % x.bag.length) + 1))).length) c245,x.vv]::row 53 16 (.slice A244 (((x.bag.take (a.Est % x.bag.length)) ++ (x.bag.drop ((a.Est % x.bag.length) + 1))).length) c245) (((x.bag.take (a.Est % x.bag.length)) ++ (x.bag.drop ((a.Est % x.bag.length) + 1))).length) cs239::obj g136 53 (clOut e101 A121 n122 c123 A126 n127 c128 A130 n131 c132)::obj g5 62 (clMove a)::row 63 1 x.vv x.vs.length x.vc::memsR 78 81 37 (x.ms.eraseIdx e101.To.toNat) ++ (vrsR 39 x.vs ++ (L)))):=St.mmOut [obj x.a 67 [.int .i64 ((x.n:Nat):Int),.slice x.A x.ln x.lc,.slice A244 (((x.bag.take (a.Est % x.bag.length)) ++ (x.bag.drop ((a.Est % x.bag.length) + 1))).length) c245,x.vv],row 53 16 (.slice A244 (((x.bag.take (a.Est % x.bag.length)) ++ (x.bag.drop ((a.Est % x.bag.length) + 1))).length) c245) (((x.bag.take (a.Est % x.bag.length)) ++ (x.bag.drop ((a.Est % x.bag.length) + 1))).length) cs239,obj g136 53 (clOut e101 A121 n122 c123 A126 n127 c128 A130 n131 c132),obj g5 62 (clMove a),row 63 1 x.vv x.vs.length x.vc] hs274 hm263
 have hr276:kFrame.rep H222 e101.F [.int .u8 ((e101.F.Kind:Nat):Int),.int .i64 e101.F.From,.int .u64 ((e101.F.ID.N:Nat):Int),.int .i64 e101.F.ID.P,.int .u16 ((e101.F.Set:Nat):Int),.int .u64 ((e101.F.Cur.N:Nat):Int),.int .i64 e101.F.Cur.P,.int .u64 ((e101.F.Prom.N:Nat):Int),.int .i64 e101.F.Prom.P,.slice A121 n122 c123,.int .u64 ((e101.F.Base:Nat):Int),.slice A126 n127 c128,.slice A130 n131 c132,.int .u64 ((e101.F.Ack:Nat):Int),.int .u64 ((e101.F.Safe:Nat):Int)]:=⟨A121,n122,c123,A126,n127,c128,A130,n131,c132,rfl,b108,⟨b109,b110⟩,b111,⟨b112,b113⟩,b114,b115,⟨b116,b117⟩,b118,⟨b119,b120⟩,(hl124.mono hle225),b125,(hl129.mono hle225),(hl133.mono hle225),b134,b135⟩
 have hr277:kState.rep H222 (GState.mk mm262.m.cur.ID 0 []) [.int .u64 ((mm262.m.cur.ID.N:Nat):Int),.int .i64 mm262.m.cur.ID.P,.int .i64 0,.slice none 0 0]:=⟨none,0,0,rfl,b270,⟨b271,b272⟩,(show IB 0 from ⟨by omega,by omega⟩),(Sl.nil _ _ none)⟩
 refine st_c cb17 .func (evs3 (.tmp rfl (congrArg (fun z => Value.pointer (some ⟨z,0,none⟩)) hg264.symm)) (.tmp rfl rfl) (.tmp rfl rfl)) (in_mm hs275 (x:=mm262) (MsOk.get (MsOk.mono ok_x.mok hle225) hm263) e101.F hr276 (GState.mk mm262.m.cur.ID 0 []) hr277 (gok_pr hg hx103 hm263) (htab.mono hle225)) ?_
 rintro e w278 ⟨H280,v282,cs285,iv287,mm289,hle281,rfl,ok283,hk286,hin288,mok290,hmg291,hmm292,hs279⟩
 refine ⟨_,rfl,?_⟩
 have hs294:=St.upL [row 53 16 v282 (((MB.inn mm262.m e101.F (GState.mk mm262.m.cur.ID 0 [])).2.1).length) cs285] hs279
 have hs293:St H280 _ (row 53 16 v282 (((MB.inn mm262.m e101.F (GState.mk mm262.m.cur.ID 0 [])).2.1).length) cs285::obj x.a 67 [.int .i64 ((x.n:Nat):Int),.slice x.A x.ln x.lc,.slice A244 (((x.bag.take (a.Est % x.bag.length)) ++ (x.bag.drop ((a.Est % x.bag.length) + 1))).length) c245,x.vv]::row 53 16 (.slice A244 (((x.bag.take (a.Est % x.bag.length)) ++ (x.bag.drop ((a.Est % x.bag.length) + 1))).length) c245) (((x.bag.take (a.Est % x.bag.length)) ++ (x.bag.drop ((a.Est % x.bag.length) + 1))).length) cs239::obj g136 53 (clOut e101 A121 n122 c123 A126 n127 c128 A130 n131 c132)::obj g5 62 (clMove a)::row 63 1 x.vv x.vs.length x.vc::memsR 78 81 37 (x.ms.set e101.To.toNat mm289) ++ (vrsR 39 x.vs ++ (L))):=St.mmIn (y:=mm289) [row 53 16 v282 (((MB.inn mm262.m e101.F (GState.mk mm262.m.cur.ID 0 [])).2.1).length) cs285,obj x.a 67 [.int .i64 ((x.n:Nat):Int),.slice x.A x.ln x.lc,.slice A244 (((x.bag.take (a.Est % x.bag.length)) ++ (x.bag.drop ((a.Est % x.bag.length) + 1))).length) c245,x.vv],row 53 16 (.slice A244 (((x.bag.take (a.Est % x.bag.length)) ++ (x.bag.drop ((a.Est % x.bag.length) + 1))).length) c245) (((x.bag.take (a.Est % x.bag.length)) ++ (x.bag.drop ((a.Est % x.bag.length) + 1))).length) cs239,obj g136 53 (clOut e101 A121 n122 c123 A126 n127 c128 A130 n131 c132),obj g5 62 (clMove a),row 63 1 x.vv x.vs.length x.vc] hs294 hm263
 refine t_new (S':=fun u => St H280 u (row 53 16 v282 (((MB.inn mm262.m e101.F (GState.mk mm262.m.cur.ID 0 [])).2.1).length) cs285::obj x.a 67 [.int .i64 ((x.n:Nat):Int),.slice x.A x.ln x.lc,.slice A244 (((x.bag.take (a.Est % x.bag.length)) ++ (x.bag.drop ((a.Est % x.bag.length) + 1))).length) c245,x.vv]::row 53 16 (.slice A244 (((x.bag.take (a.Est % x.bag.length)) ++ (x.bag.drop ((a.Est % x.bag.length) + 1))).length) c245) (((x.bag.take (a.Est % x.bag.length)) ++ (x.bag.drop ((a.Est % x.bag.length) + 1))).length) cs239::obj g136 53 (clOut e101 A121 n122 c123 A126 n127 c128 A130 n131 c132)::obj g5 62 (clMove a)::row 63 1 x.vv x.vs.length x.vc::L)) rfl (St.dropL [row 53 16 v282 (((MB.inn mm262.m e101.F (GState.mk mm262.m.cur.ID 0 [])).2.1).length) cs285,obj x.a 67 [.int .i64 ((x.n:Nat):Int),.slice x.A x.ln x.lc,.slice A244 (((x.bag.take (a.Est % x.bag.length)) ++ (x.bag.drop ((a.Est % x.bag.length) + 1))).length) c245,x.vv],row 53 16 (.slice A244 (((x.bag.take (a.Est % x.bag.length)) ++ (x.bag.drop ((a.Est % x.bag.length) + 1))).length) c245) (((x.bag.take (a.Est % x.bag.length)) ++ (x.bag.drop ((a.Est % x.bag.length) + 1))).length) cs239,obj g136 53 (clOut e101 A121 n122 c123 A126 n127 c128 A130 n131 c132),obj g5 62 (clMove a),row 63 1 x.vv x.vs.length x.vc] (St.dropL [row 53 16 v282 (((MB.inn mm262.m e101.F (GState.mk mm262.m.cur.ID 0 [])).2.1).length) cs285,obj x.a 67 [.int .i64 ((x.n:Nat):Int),.slice x.A x.ln x.lc,.slice A244 (((x.bag.take (a.Est % x.bag.length)) ++ (x.bag.drop ((a.Est % x.bag.length) + 1))).length) c245,x.vv],row 53 16 (.slice A244 (((x.bag.take (a.Est % x.bag.length)) ++ (x.bag.drop ((a.Est % x.bag.length) + 1))).length) c245) (((x.bag.take (a.Est % x.bag.length)) ++ (x.bag.drop ((a.Est % x.bag.length) + 1))).length) cs239,obj g136 53 (clOut e101 A121 n122 c123 A126 n127 c128 A130 n131 c132),obj g5 62 (clMove a),row 63 1 x.vv x.vs.length x.vc] hs293)) ?_
 refine t_st (k:=22) (v:=.tuple #[v282,iv287,.int .i64 ((MB.inn mm262.m e101.F (GState.mk mm262.m.cur.ID 0 [])).2.2.2)]) rfl rfl (fun w hs => (x_move (.tmp rfl rfl))) ?_
 refine t_st (k:=23) (v:=v282) rfl rfl (fun w hs => (x_extract (.tmp rfl rfl) (i:=0) rfl)) ?_
 refine t_st (k:=24) (v:=iv287) rfl rfl (fun w hs => (x_extract (.tmp rfl rfl) (i:=1) rfl)) ?_
 refine t_st (k:=25) (v:=.int .i64 ((MB.inn mm262.m e101.F (GState.mk mm262.m.cur.ID 0 [])).2.2.2)) rfl rfl (fun w hs => (x_extract (.tmp rfl rfl) (i:=2) rfl)) ?_
 refine t_st (k:=26) (v:=v282) rfl rfl (fun w hs => (x_assign (.tmp rfl rfl))) ?_
 refine t_st (k:=27) (v:=iv287) rfl rfl (fun w hs => (x_assign (.tmp rfl rfl))) ?_
 refine t_st (k:=28) (v:=.int .i64 ((MB.inn mm262.m e101.F (GState.mk mm262.m.cur.ID 0 [])).2.2.2)) rfl rfl (fun w hs => (x_assign (.tmp rfl rfl))) ?_
 refine t_nil ?_
 refine n_then (c_region ?_)
 have hl16:=gok_in hg hx103 hm263
 refine st (v:=.pointer (some ⟨x.a,0,none⟩)) (x_move (.tmp rfl rfl)) ?_
 refine st (v:=.pointer (some ⟨g136,0 + 0,none⟩)) (fa53_0 (.tmp rfl rfl)) ?_
 refine st (v:=.int .i64 e101.To) (ld3 (.tmp rfl rfl) (hs293.cell 3 rfl (0 + 0) rfl)) ?_
 refine st (v:=v282) (x_move (.tmp rfl rfl)) ?_
 refine st (v:=iv287) (x_move (.tmp rfl rfl)) ?_
 have:((MB.inn mm262.m e101.F (GState.mk mm262.m.cur.ID 0 [])).2.1).length * 192 ≤ 140737488351232:=by omega
 obtain ⟨H295,A296,c297,hle298,hs299,rfl,sp300⟩:=hs293.freezeSl (d:=kOut) ok283 hk286 this
 have:=sp300.len; have:=sp300.le
 have hs301:=hs299.p4
 have hs302:=hs301.p2
 have hs303:=hs302.p2
 have okg305:GR.ok (GR.mk x.n (x.ms.set e101.To.toNat mm289) ((x.bag.take (a.Est % x.bag.length)) ++ (x.bag.drop ((a.Est % x.bag.length) + 1))) x.vs x.a x.A x.ln x.lc (.slice A244 (((x.bag.take (a.Est % x.bag.length)) ++ (x.bag.drop ((a.Est % x.bag.length) + 1))).length) c245) cs239 x.vv x.vc) H295:=⟨(MsOk.mono (MsOk.set (MsOk.mono (MsOk.mono ok_x.mok hle225) hle281) hm263 mok290 hmg291) hle298),(by show Sl kPtr _ _ _ _ (ptrs (x.ms.set e101.To.toNat mm289)); rw [(ptrs_set hm263 hmg291)]; exact (((ok_x.l.mono hle225).mono hle281).mono hle298)),ok240,(Kn.rows_mono (Kn.rows_mono hk241 hle281) hle298),ok_x.vok,(Kn.rows_mono (Kn.rows_mono (Kn.rows_mono ok_x.vhk hle225) hle281) hle298)⟩
 have hs304:St H295 _ (GR.res 67 53 63 39 78 81 37 (GR.mk x.n (x.ms.set e101.To.toNat mm289) ((x.bag.take (a.Est % x.bag.length)) ++ (x.bag.drop ((a.Est % x.bag.length) + 1))) x.vs x.a x.A x.ln x.lc (.slice A244 (((x.bag.take (a.Est % x.bag.length)) ++ (x.bag.drop ((a.Est % x.bag.length) + 1))).length) c245) cs239 x.vv x.vc) ++ (obj g136 53 (clOut e101 A121 n122 c123 A126 n127 c128 A130 n131 c132)::obj g5 62 (clMove a)::L)):=St.grpShut (x:=(GR.mk x.n (x.ms.set e101.To.toNat mm289) ((x.bag.take (a.Est % x.bag.length)) ++ (x.bag.drop ((a.Est % x.bag.length) + 1))) x.vs x.a x.A x.ln x.lc (.slice A244 (((x.bag.take (a.Est % x.bag.length)) ++ (x.bag.drop ((a.Est % x.bag.length) + 1))).length) c245) cs239 x.vv x.vc)) [obj g136 53 (clOut e101 A121 n122 c123 A126 n127 c128 A130 n131 c132),obj g5 62 (clMove a)] hs303
 refine st_c cb35 .func (evs4 (.tmp rfl rfl) (.tmp rfl rfl) (.tmp rfl rfl) (.tmp rfl rfl)) (post_spec hs304 (x:=(GR.mk x.n (x.ms.set e101.To.toNat mm289) ((x.bag.take (a.Est % x.bag.length)) ++ (x.bag.drop ((a.Est % x.bag.length) + 1))) x.vs x.a x.A x.ln x.lc (.slice A244 (((x.bag.take (a.Est % x.bag.length)) ++ (x.bag.drop ((a.Est % x.bag.length) + 1))).length) c245) cs239 x.vv x.vc)) okg305 e101.To ⟨b106,b107⟩ ((MB.inn mm262.m e101.F (GState.mk mm262.m.cur.ID 0 [])).2.1) sp300 iv287 ((MB.inn mm262.m e101.F (GState.mk mm262.m.cur.ID 0 [])).2.2.1) (hin288.mono hle298) (by omega) (by show _ < x.vs.length; omega) (by dsimp only; first | omega | (simp only [List.length_append,List.length_take,List.length_drop]; omega)) (gok_in hg hx103 hm263) (gok_vl (x:=x) hg)) ?_
 rintro e w306 ⟨H308,gr310,hle309,rfl,okg311,hga312,hgn313,hgg314,hs307⟩
 refine ⟨_,rfl,?_⟩
 have hs315:St H308 _ (obj gr310.a 67 [.int .i64 ((gr310.n:Nat):Int),.slice gr310.A gr310.ln gr310.lc,gr310.bv,gr310.vv]::row 53 16 gr310.bv gr310.bag.length gr310.bc::row 63 1 gr310.vv gr310.vs.length gr310.vc::obj g136 53 (clOut e101 A121 n122 c123 A126 n127 c128 A130 n131 c132)::obj g5 62 (clMove a)::memsR 78 81 37 gr310.ms ++ (vrsR 39 gr310.vs ++ (L))):=St.grpOpen [obj g136 53 (clOut e101 A121 n122 c123 A126 n127 c128 A130 n131 c132),obj g5 62 (clMove a)] hs307
 refine c_nil (n_block (leave_end (res_none rfl) ?_))
 have hs316:=hs315.p2
 have hs317:=hs316.p2
 have hs318:=hs317.p2
 have okg320:GR.ok gr310 H308:=⟨okg311.mok,okg311.l,okg311.bok,okg311.bhk,okg311.vok,okg311.vhk⟩
 have hs319:St H308 _ (GR.res 67 53 63 39 78 81 37 gr310 ++ (obj g136 53 (clOut e101 A121 n122 c123 A126 n127 c128 A130 n131 c132)::obj g5 62 (clMove a)::L)):=St.grpShut (x:=gr310) [obj g136 53 (clOut e101 A121 n122 c123 A126 n127 c128 A130 n131 c132),obj g5 62 (clMove a)] hs318
 have hs321:St H308 _ (obj g136 53 (clOut e101 A121 n122 c123 A126 n127 c128 A130 n131 c132)::obj g5 62 (clMove a)::GR.res 67 53 63 39 78 81 37 gr310 ++ (L)):=St.downL [obj g136 53 (clOut e101 A121 n122 c123 A126 n127 c128 A130 n131 c132),obj g5 62 (clMove a)] hs319
 exact ⟨H308,gr310,(((hle225.trans hle281).trans hle298).trans hle309),rfl,okg320,hga312,hgn313,(hgg314.trans (mv_in (by omega) (by omega) (by omega) (bag_go (by simpa using hc143)) hx103 hm263 hmm292)),hs321.drop.drop⟩
 have hp251:¬ (((((a.Kind % 9):Nat):Int):Int) < 7):=of_decide_eq_false hc251
 refine c_cond_f (t:=false) (.tmp rfl (cVb hc251)) rfl ?_
 refine c_skip (n_block (leave_end (res_none rfl) ?_))
 have hs322:=hs250.p4
 have hs323:=hs322.p2
 have hs324:=hs323.p2
 have okg326:GR.ok (GR.mk x.n x.ms ((x.bag.take (a.Est % x.bag.length)) ++ (x.bag.drop ((a.Est % x.bag.length) + 1))) x.vs x.a x.A x.ln x.lc (.slice A244 (((x.bag.take (a.Est % x.bag.length)) ++ (x.bag.drop ((a.Est % x.bag.length) + 1))).length) c245) cs239 x.vv x.vc) H222:=⟨(MsOk.mono ok_x.mok hle225),(ok_x.l.mono hle225),ok240,hk241,ok_x.vok,(Kn.rows_mono ok_x.vhk hle225)⟩
 have hs325:St H222 _ (GR.res 67 53 63 39 78 81 37 (GR.mk x.n x.ms ((x.bag.take (a.Est % x.bag.length)) ++ (x.bag.drop ((a.Est % x.bag.length) + 1))) x.vs x.a x.A x.ln x.lc (.slice A244 (((x.bag.take (a.Est % x.bag.length)) ++ (x.bag.drop ((a.Est % x.bag.length) + 1))).length) c245) cs239 x.vv x.vc) ++ (obj g136 53 (clOut e101 A121 n122 c123 A126 n127 c128 A130 n131 c132)::obj g5 62 (clMove a)::L)):=St.grpShut (x:=(GR.mk x.n x.ms ((x.bag.take (a.Est % x.bag.length)) ++ (x.bag.drop ((a.Est % x.bag.length) + 1))) x.vs x.a x.A x.ln x.lc (.slice A244 (((x.bag.take (a.Est % x.bag.length)) ++ (x.bag.drop ((a.Est % x.bag.length) + 1))).length) c245) cs239 x.vv x.vc)) [obj g136 53 (clOut e101 A121 n122 c123 A126 n127 c128 A130 n131 c132),obj g5 62 (clMove a)] hs324
 have hs327:St H222 _ (obj g136 53 (clOut e101 A121 n122 c123 A126 n127 c128 A130 n131 c132)::obj g5 62 (clMove a)::GR.res 67 53 63 39 78 81 37 (GR.mk x.n x.ms ((x.bag.take (a.Est % x.bag.length)) ++ (x.bag.drop ((a.Est % x.bag.length) + 1))) x.vs x.a x.A x.ln x.lc (.slice A244 (((x.bag.take (a.Est % x.bag.length)) ++ (x.bag.drop ((a.Est % x.bag.length) + 1))).length) c245) cs239 x.vv x.vc) ++ (L)):=St.downL [obj g136 53 (clOut e101 A121 n122 c123 A126 n127 c128 A130 n131 c132),obj g5 62 (clMove a)] hs325
 exact ⟨H222,(GR.mk x.n x.ms ((x.bag.take (a.Est % x.bag.length)) ++ (x.bag.drop ((a.Est % x.bag.length) + 1))) x.vs x.a x.A x.ln x.lc (.slice A244 (((x.bag.take (a.Est % x.bag.length)) ++ (x.bag.drop ((a.Est % x.bag.length) + 1))).length) c245) cs239 x.vv x.vc),hle225,rfl,okg326,rfl,rfl,(mv_drop (by omega) (by omega) (by omega) (bag_go (by simpa using hc143))),hs327.drop.drop⟩
 have hp81:¬ (((((a.Kind % 9):Nat):Int):Int) < 8):=of_decide_eq_false hc81
 refine c_cond_f (t:=false) (.tmp rfl (cVb hc81)) rfl ?_
 refine c_seq (c_region (st (v:=.int .i64 0) (x_assign .const) ?_))
 refine c_nil (n_then (c_block (c_loop (fun ρ w mm => ∃ (j:Nat) (bl:List GOut) (bv:Value) (bc:List Value),ρ 0 = .pointer (some ⟨x.a,0,none⟩)∧ρ 4 = .int .i64 (((a.I % x.n):Nat):Int)∧ρ 14 = .int .i64 ((j:Nat):Int)∧(j ≤ x.n)∧(RowOk kOut.sz bv bl.length bc)∧(kOut.toKn.rows H bl bc)∧(bl = x.bag ++ x.g.beatsTo (a.I % x.n) j)∧(bl.length ≤ x.bag.length + j)∧St H w (obj x.a 67 [.int .i64 ((x.n:Nat):Int),.slice x.A x.ln x.lc,bv,x.vv]::row 53 16 bv bl.length bc::row 63 1 x.vv x.vs.length x.vc::memsR 78 81 37 x.ms ++ (vrsR 39 x.vs ++ (L)))∧mm = x.n - j) _ ⟨0,x.bag,x.bv,x.bc,rfl,rfl,rfl,(by omega),ok_x.bok,ok_x.bhk,beat_zero,(by omega),(((hs9.drop.p2).p2).p2),rfl⟩ ?_)))
 rintro ρ w mm ⟨j,bl,bv,bc,hρ329,hρ330,hρ331,hj,okb,hkb,hbl,hbn,hs332,rfl⟩
 refine c_seq (c_seq (c_region (st (v:=.int .i64 ((j:Nat):Int)) (x_move (.tmp rfl hρ331)) ?_)))
 refine st (v:=.pointer (some ⟨x.a,0,none⟩)) (x_move (.tmp rfl hρ329)) ?_
 refine st (v:=.pointer (some ⟨x.a,0,none⟩)) (x_nilCheck (.tmp rfl rfl)) ?_
 refine st (v:=.pointer (some ⟨x.a,0 + 0,none⟩)) (fa67_0 (.tmp rfl rfl)) ?_
 refine st (v:=.int .i64 ((x.n:Nat):Int)) (ld3 (.tmp rfl rfl) (hs332.cell 0 rfl (0 + 0) rfl)) ?_
 refine st (v:=.bool (decide ((((j:Nat):Int):Int) < ((x.n:Nat):Int)))) (x_lss (k:=.i64) (a:=((j:Nat):Int)) (b:=((x.n:Nat):Int)) (.tmp rfl rfl) (.tmp rfl rfl)) ?_
 refine c_nil (n_then ?_)
 rcases Bool.eq_false_or_eq_true (decide ((((j:Nat):Int):Int) < ((x.n:Nat):Int))) with hc333 | hc333
 have hp333:(((j:Nat):Int):Int) < ((x.n:Nat):Int):=of_decide_eq_true hc333
 refine c_cond_t (t:=true) (.tmp rfl (cVb hc333)) rfl ?_
 refine c_skip (n_then (c_seq (c_block (c_seq (c_region (st (v:=.int .i64 ((j:Nat):Int)) (x_move (.tmp rfl hρ331)) ?_))))))
 refine st (v:=.int .i64 (((a.I % x.n):Nat):Int)) (x_move (.tmp rfl hρ330)) ?_
 refine st (v:=.bool (decide ((((j:Nat):Int):Int) ≠ (((a.I % x.n):Nat):Int)))) (x_neq (k:=.i64) (a:=((j:Nat):Int)) (b:=(((a.I % x.n):Nat):Int)) (.tmp rfl rfl) (.tmp rfl rfl)) ?_
 refine c_nil (n_then ?_)
 rcases Bool.eq_false_or_eq_true (decide ((((j:Nat):Int):Int) ≠ (((a.I % x.n):Nat):Int))) with hc334 | hc334
 have hp334:(((j:Nat):Int):Int) ≠ (((a.I % x.n):Nat):Int):=of_decide_eq_true hc334
 refine c_cond_t (t:=true) (.tmp rfl (cVb hc334)) rfl ?_
 refine u_region (L:=obj x.a 67 [.int .i64 ((x.n:Nat):Int),.slice x.A x.ln x.lc,bv,x.vv]::row 53 16 bv bl.length bc::row 63 1 x.vv x.vs.length x.vc::memsR 78 81 37 x.ms ++ (vrsR 39 x.vs ++ (L))) (L':=obj x.a 67 [.int .i64 ((x.n:Nat):Int),.slice x.A x.ln x.lc,bv,x.vv]::row 53 16 bv bl.length bc::row 63 1 x.vv x.vs.length x.vc::L) (Z:=[27,30]) (F:=[0]) (Lw:=row 63 1 x.vv x.vs.length x.vc::L) (pl:=(.q 0 (.q 1 (.q 2 (.q 3 (.q 4 (.q 5 (.q 6 (.q 7 (.q 8 (.q 9 (.q 10 (.q 11 (.q 12 (.q 13 (.q 16 (.q 17 (.q 18 (.q 19 (.q 20 (.q 21 (.q 22 (.e 14 (.q 15 (.e 23 (.q 24 (.q 25 (.e 26 (.e 27 (.q 28 (.q 29 (.e 30 .done)))))))))))))))))))))))))))))))) mixed hs332 (fun u hu => (St.dropL [obj x.a 67 [.int .i64 ((x.n:Nat):Int),.slice x.A x.ln x.lc,bv,x.vv],row 53 16 bv bl.length bc,row 63 1 x.vv x.vs.length x.vc] (St.dropL [obj x.a 67 [.int .i64 ((x.n:Nat):Int),.slice x.A x.ln x.lc,bv,x.vv],row 53 16 bv bl.length bc,row 63 1 x.vv x.vs.length x.vc] hu))) (fun u hu => hu.drop.drop) (by kernel_rfl) ?_
 intro w335 hs336
 refine u_fr (k:=0) (v:=.pointer (some ⟨x.a,0,none⟩)) rfl rfl (fun w hs => (x_move (.tmp rfl hρ329))) ?_
 refine u_st (k:=1) (v:=.pointer (some ⟨x.a,0,none⟩)) rfl rfl (fun w hs => (x_move (.tmp rfl hρ329))) ?_
 refine u_st (k:=2) (v:=.pointer (some ⟨x.a,0,none⟩)) rfl rfl (fun w hs => (x_nilCheck (.tmp rfl rfl))) ?_
 refine u_st (k:=3) (v:=.pointer (some ⟨x.a,0 + 2,none⟩)) rfl rfl (fun w hs => (fa67_2 (.tmp rfl rfl))) ?_
 refine u_st (k:=4) (v:=bv) rfl rfl (fun w hs => (ld27 (.tmp rfl rfl) (hs.cell 0 rfl (0 + 2) rfl))) ?_
 refine u_st (k:=5) (v:=.int .i64 ((j:Nat):Int)) rfl rfl (fun w hs => (x_move (.tmp rfl hρ331))) ?_
 refine u_st (k:=6) (v:=.int .i64 (((a.I % x.n):Nat):Int)) rfl rfl (fun w hs => (x_move (.tmp rfl hρ330))) ?_
 refine u_st (k:=7) (v:=.pointer (some ⟨x.a,0,none⟩)) rfl rfl (fun w hs => (x_move (.tmp rfl hρ329))) ?_
 refine u_st (k:=8) (v:=.pointer (some ⟨x.a,0,none⟩)) rfl rfl (fun w hs => (x_nilCheck (.tmp rfl rfl))) ?_
 refine u_st (k:=9) (v:=.pointer (some ⟨x.a,0 + 1,none⟩)) rfl rfl (fun w hs => (fa67_1 (.tmp rfl rfl))) ?_
 refine u_st (k:=10) (v:=.slice x.A x.ln x.lc) rfl rfl (fun w hs => (ld64 (.tmp rfl rfl) (hs.cell 0 rfl (0 + 1) rfl))) ?_
 refine u_st (k:=11) (v:=.int .i64 (((a.I % x.n):Nat):Int)) rfl rfl (fun w hs => (x_move (.tmp rfl hρ330))) ?_
 obtain ⟨e337,b338,o339,cs340,hx341,hA342,hr343,hat344⟩:=ok_x.l.get (i:=(a.I % x.n)) (by omega)
 obtain ⟨rfl⟩:=hr343
 have hat344x:∀ {w:World} {L:List Res},St H w L → At w ⟨b338,o339 + (a.I % x.n) * 1,none⟩ [.pointer (some ⟨e337,0,none⟩)]:=fun h => hat344 h
 obtain ⟨mm345,hm346,hg347⟩:=ptr_at hx341
 refine u_st (k:=12) (v:=.pointer (some ⟨b338,(o339 + (a.I % x.n) * 1),none⟩)) rfl rfl (fun w hs => (ixo64 (.tmp rfl rfl) hA342 (i:=(((a.I % x.n):Nat):Int)) (.tmp rfl rfl) (by omega) (by omega) (by omega))) ?_
 refine u_st (k:=13) (v:=.pointer (some ⟨e337,0,none⟩)) rfl rfl (fun w hs => (ld23 (.tmp rfl rfl) ((hat344x hs).cell 0 rfl))) ?_
 refine u_st (k:=16) (v:=.pointer (some ⟨x.a,0,none⟩)) rfl rfl (fun w hs => (x_move (.tmp rfl hρ329))) ?_
 refine u_st (k:=17) (v:=.pointer (some ⟨x.a,0,none⟩)) rfl rfl (fun w hs => (x_nilCheck (.tmp rfl rfl))) ?_
 refine u_st (k:=18) (v:=.pointer (some ⟨x.a,0 + 1,none⟩)) rfl rfl (fun w hs => (fa67_1 (.tmp rfl rfl))) ?_
 refine u_st (k:=19) (v:=.slice x.A x.ln x.lc) rfl rfl (fun w hs => (ld64 (.tmp rfl rfl) (hs.cell 0 rfl (0 + 1) rfl))) ?_
 refine u_st (k:=20) (v:=.int .i64 (((a.I % x.n):Nat):Int)) rfl rfl (fun w hs => (x_move (.tmp rfl hρ330))) ?_
 refine u_st (k:=21) (v:=.pointer (some ⟨b338,(o339 + (a.I % x.n) * 1),none⟩)) rfl rfl (fun w hs => (ixo64 (.tmp rfl rfl) hA342 (i:=(((a.I % x.n):Nat):Int)) (.tmp rfl rfl) (by omega) (by omega) (by omega))) ?_
 refine u_st (k:=22) (v:=.pointer (some ⟨e337,0,none⟩)) rfl rfl (fun w hs => (ld23 (.tmp rfl rfl) ((hat344x hs).cell 0 rfl))) ?_
 refine u_eff (k:=14) rfl ?_
 have hs348:St H _ (MM.res 78 81 37 mm345 ++ (obj x.a 67 [.int .i64 ((x.n:Nat):Int),.slice x.A x.ln x.lc,bv,x.vv]::row 53 16 bv bl.length bc::row 63 1 x.vv x.vs.length x.vc::memsR 78 81 37 (x.ms.eraseIdx (a.I % x.n)) ++ (vrsR 39 x.vs ++ (L)))):=St.mmOut [obj x.a 67 [.int .i64 ((x.n:Nat):Int),.slice x.A x.ln x.lc,bv,x.vv],row 53 16 bv bl.length bc,row 63 1 x.vv x.vs.length x.vc] hs336 hm346
 refine st_c cb14 .func (evs1 (.tmp rfl (congrArg (fun z => Value.pointer (some ⟨z,0,none⟩)) hg347.symm))) (cur_mm hs348 (x:=mm345) (MsOk.get ok_x.mok hm346) ) ?_
 rintro e w349 ⟨cs351,rfl,hr352,hs350⟩
 obtain ⟨rfl,b353,⟨b354,b355⟩,b356⟩:=hr352
 refine ⟨_,rfl,?_⟩
 have hs357:St H _ (obj x.a 67 [.int .i64 ((x.n:Nat):Int),.slice x.A x.ln x.lc,bv,x.vv]::row 53 16 bv bl.length bc::row 63 1 x.vv x.vs.length x.vc::memsR 78 81 37 x.ms ++ (vrsR 39 x.vs ++ (L))):=St.mmBack [obj x.a 67 [.int .i64 ((x.n:Nat):Int),.slice x.A x.ln x.lc,bv,x.vv],row 53 16 bv bl.length bc,row 63 1 x.vv x.vs.length x.vc] hs350 hm346
 refine u_on (S':=fun u => St H u (obj x.a 67 [.int .i64 ((x.n:Nat):Int),.slice x.A x.ln x.lc,bv,x.vv]::row 53 16 bv bl.length bc::row 63 1 x.vv x.vs.length x.vc::L)) (fun u hu => hu) (fun u hu => hu.drop.drop) (St.dropL [obj x.a 67 [.int .i64 ((x.n:Nat):Int),.slice x.A x.ln x.lc,bv,x.vv],row 53 16 bv bl.length bc,row 63 1 x.vv x.vs.length x.vc] (St.dropL [obj x.a 67 [.int .i64 ((x.n:Nat):Int),.slice x.A x.ln x.lc,bv,x.vv],row 53 16 bv bl.length bc,row 63 1 x.vv x.vs.length x.vc] hs357)) ?_
 refine u_st (k:=15) (v:=.agg #[.int .u64 ((mm345.m.cur.ID.N:Nat):Int),.int .i64 mm345.m.cur.ID.P]) rfl rfl (fun w hs => (x_field Tryd.underlying39 rfl (.tmp rfl rfl) (fun w => (part_agg (by kernel_rfl) inf34 rfl)))) ?_
 refine u_eff (k:=23) rfl ?_
 have hs358:St H _ (MM.res 78 81 37 mm345 ++ (obj x.a 67 [.int .i64 ((x.n:Nat):Int),.slice x.A x.ln x.lc,bv,x.vv]::row 53 16 bv bl.length bc::row 63 1 x.vv x.vs.length x.vc::memsR 78 81 37 (x.ms.eraseIdx (a.I % x.n)) ++ (vrsR 39 x.vs ++ (L)))):=St.mmOut [obj x.a 67 [.int .i64 ((x.n:Nat):Int),.slice x.A x.ln x.lc,bv,x.vv],row 53 16 bv bl.length bc,row 63 1 x.vv x.vs.length x.vc] hs357 hm346
 refine st_c cb19 .func (evs1 (.tmp rfl (congrArg (fun z => Value.pointer (some ⟨z,0,none⟩)) hg347.symm))) (prom_mm hs358 (x:=mm345) (MsOk.get ok_x.mok hm346) ) ?_
 rintro e w359 ⟨cs361,rfl,hr362,hs360⟩
 obtain ⟨rfl,b363,⟨b364,b365⟩⟩:=hr362
 refine ⟨_,rfl,?_⟩
 have hs366:St H _ (obj x.a 67 [.int .i64 ((x.n:Nat):Int),.slice x.A x.ln x.lc,bv,x.vv]::row 53 16 bv bl.length bc::row 63 1 x.vv x.vs.length x.vc::memsR 78 81 37 x.ms ++ (vrsR 39 x.vs ++ (L))):=St.mmBack [obj x.a 67 [.int .i64 ((x.n:Nat):Int),.slice x.A x.ln x.lc,bv,x.vv],row 53 16 bv bl.length bc,row 63 1 x.vv x.vs.length x.vc] hs360 hm346
 refine u_on (S':=fun u => St H u (obj x.a 67 [.int .i64 ((x.n:Nat):Int),.slice x.A x.ln x.lc,bv,x.vv]::row 53 16 bv bl.length bc::row 63 1 x.vv x.vs.length x.vc::L)) (fun u hu => hu) (fun u hu => hu.drop.drop) (St.dropL [obj x.a 67 [.int .i64 ((x.n:Nat):Int),.slice x.A x.ln x.lc,bv,x.vv],row 53 16 bv bl.length bc,row 63 1 x.vv x.vs.length x.vc] (St.dropL [obj x.a 67 [.int .i64 ((x.n:Nat):Int),.slice x.A x.ln x.lc,bv,x.vv],row 53 16 bv bl.length bc,row 63 1 x.vv x.vs.length x.vc] hs366)) ?_
 refine u_st (k:=24) (v:=.agg #[.int .u8 1,.int .i64 (((a.I % x.n):Nat):Int),.int .u64 0,.int .i64 0,.int .u16 0,.int .u64 ((mm345.m.cur.ID.N:Nat):Int),.int .i64 mm345.m.cur.ID.P,.int .u64 ((mm345.m.prom.N:Nat):Int),.int .i64 mm345.m.prom.P,.slice none 0 0,.int .u64 0,.slice none 0 0,.slice none 0 0,.int .u64 0,.int .u64 0]) rfl rfl (fun w hs => (bl51 (ps:=[(0,.int .u8 1),(1,.int .i64 (((a.I % x.n):Nat):Int)),(4,.agg #[.int .u64 ((mm345.m.cur.ID.N:Nat):Int),.int .i64 mm345.m.cur.ID.P]),(5,.agg #[.int .u64 ((mm345.m.prom.N:Nat):Int),.int .i64 mm345.m.prom.P])]) (.cons .const (.cons (.tmp rfl rfl) (.cons (.tmp rfl rfl) (.cons (.tmp rfl rfl) Evp.nil)))) rfl)) ?_
 refine u_st (k:=25) (v:=.agg #[.int .i64 ((j:Nat):Int),.int .u8 1,.int .i64 (((a.I % x.n):Nat):Int),.int .u64 0,.int .i64 0,.int .u16 0,.int .u64 ((mm345.m.cur.ID.N:Nat):Int),.int .i64 mm345.m.cur.ID.P,.int .u64 ((mm345.m.prom.N:Nat):Int),.int .i64 mm345.m.prom.P,.slice none 0 0,.int .u64 0,.slice none 0 0,.slice none 0 0,.int .u64 0,.int .u64 0]) rfl rfl (fun w hs => (bl53 (ps:=[(0,.int .i64 ((j:Nat):Int)),(1,.agg #[.int .u8 1,.int .i64 (((a.I % x.n):Nat):Int),.int .u64 0,.int .i64 0,.int .u16 0,.int .u64 ((mm345.m.cur.ID.N:Nat):Int),.int .i64 mm345.m.cur.ID.P,.int .u64 ((mm345.m.prom.N:Nat):Int),.int .i64 mm345.m.prom.P,.slice none 0 0,.int .u64 0,.slice none 0 0,.slice none 0 0,.int .u64 0,.int .u64 0])]) (.cons (.tmp rfl rfl) (.cons (.tmp rfl rfl) Evp.nil)) rfl)) ?_
 refine u_eff (k:=26) rfl ?_
 refine st_m (m_lit (n:=1) (ps:=[(0,.agg #[.int .i64 ((j:Nat):Int),.int .u8 1,.int .i64 (((a.I % x.n):Nat):Int),.int .u64 0,.int .i64 0,.int .u16 0,.int .u64 ((mm345.m.cur.ID.N:Nat):Int),.int .i64 mm345.m.cur.ID.P,.int .u64 ((mm345.m.prom.N:Nat):Int),.int .i64 mm345.m.prom.P,.slice none 0 0,.int .u64 0,.slice none 0 0,.slice none 0 0,.int .u64 0,.int .u64 0])]) (cs:=[.int .i64 ((j:Nat):Int),.int .u8 1,.int .i64 (((a.I % x.n):Nat):Int),.int .u64 0,.int .i64 0,.int .u16 0,.int .u64 ((mm345.m.cur.ID.N:Nat):Int),.int .i64 mm345.m.cur.ID.P,.int .u64 ((mm345.m.prom.N:Nat):Int),.int .i64 mm345.m.prom.P,.slice none 0 0,.int .u64 0,.slice none 0 0,.slice none 0 0,.int .u64 0,.int .u64 0]) Tryd.underlying27 inf53 (.cons (.tmp rfl rfl) Evp.nil) (by decide) (by decide) rfl rfl hs366) ?_
 rintro _ w368 ⟨g367,rfl,hs370⟩
 refine u_on (S':=fun u => St H u (obj g367 53 [.int .i64 ((j:Nat):Int),.int .u8 1,.int .i64 (((a.I % x.n):Nat):Int),.int .u64 0,.int .i64 0,.int .u16 0,.int .u64 ((mm345.m.cur.ID.N:Nat):Int),.int .i64 mm345.m.cur.ID.P,.int .u64 ((mm345.m.prom.N:Nat):Int),.int .i64 mm345.m.prom.P,.slice none 0 0,.int .u64 0,.slice none 0 0,.slice none 0 0,.int .u64 0,.int .u64 0]::obj x.a 67 [.int .i64 ((x.n:Nat):Int),.slice x.A x.ln x.lc,bv,x.vv]::row 53 16 bv bl.length bc::row 63 1 x.vv x.vs.length x.vc::L)) (fun u hu => hu.drop) (fun u hu => hu.drop.drop.drop) (St.dropL [obj g367 53 [.int .i64 ((j:Nat):Int),.int .u8 1,.int .i64 (((a.I % x.n):Nat):Int),.int .u64 0,.int .i64 0,.int .u16 0,.int .u64 ((mm345.m.cur.ID.N:Nat):Int),.int .i64 mm345.m.cur.ID.P,.int .u64 ((mm345.m.prom.N:Nat):Int),.int .i64 mm345.m.prom.P,.slice none 0 0,.int .u64 0,.slice none 0 0,.slice none 0 0,.int .u64 0,.int .u64 0],obj x.a 67 [.int .i64 ((x.n:Nat):Int),.slice x.A x.ln x.lc,bv,x.vv],row 53 16 bv bl.length bc,row 63 1 x.vv x.vs.length x.vc] (St.dropL [obj g367 53 [.int .i64 ((j:Nat):Int),.int .u8 1,.int .i64 (((a.I % x.n):Nat):Int),.int .u64 0,.int .i64 0,.int .u16 0,.int .u64 ((mm345.m.cur.ID.N:Nat):Int),.int .i64 mm345.m.cur.ID.P,.int .u64 ((mm345.m.prom.N:Nat):Int),.int .i64 mm345.m.prom.P,.slice none 0 0,.int .u64 0,.slice none 0 0,.slice none 0 0,.int .u64 0,.int .u64 0],obj x.a 67 [.int .i64 ((x.n:Nat):Int),.slice x.A x.ln x.lc,bv,x.vv],row 53 16 bv bl.length bc,row 63 1 x.vv x.vs.length x.vc] hs370)) ?_
 refine u_eff (k:=27) rfl ?_
 have hs371:=hs370.p2
 have hr379:kOut.rep H (GOut.mk ((j:Nat):Int) (GFrame.mk 1 (((a.I % x.n):Nat):Int) (GViewID.mk 0 0) 0 mm345.m.cur.ID mm345.m.prom [] 0 [] [] 0 0)) [.int .i64 ((j:Nat):Int),.int .u8 1,.int .i64 (((a.I % x.n):Nat):Int),.int .u64 0,.int .i64 0,.int .u16 0,.int .u64 ((mm345.m.cur.ID.N:Nat):Int),.int .i64 mm345.m.cur.ID.P,.int .u64 ((mm345.m.prom.N:Nat):Int),.int .i64 mm345.m.prom.P,.slice none 0 0,.int .u64 0,.slice none 0 0,.slice none 0 0,.int .u64 0,.int .u64 0]:=⟨none,0,0,none,0,0,none,0,0,rfl,(show IB ((j:Nat):Int) from ⟨by omega,by omega⟩),(show 1 < 256 from by omega),(show IB (((a.I % x.n):Nat):Int) from ⟨by omega,by omega⟩),(show 0 < 18446744073709551616 from by omega),(show IB 0 from ⟨by omega,by omega⟩),(show 0 < 65536 from by omega),b353,⟨b354,b355⟩,b363,⟨b364,b365⟩,(Sl.nil _ _ none),(show 0 < 18446744073709551616 from by omega),(Sl.nil _ _ none),(Sl.nil _ _ none),(show 0 < 18446744073709551616 from by omega),(show 0 < 18446744073709551616 from by omega)⟩
 refine st_m (m_appK (d:=kOut) (ys:=[(GOut.mk ((j:Nat):Int) (GFrame.mk 1 (((a.I % x.n):Nat):Int) (GViewID.mk 0 0) 0 mm345.m.cur.ID mm345.m.prom [] 0 [] [] 0 0))]) (news:=[.int .i64 ((j:Nat):Int),.int .u8 1,.int .i64 (((a.I % x.n):Nat):Int),.int .u64 0,.int .i64 0,.int .u16 0,.int .u64 ((mm345.m.cur.ID.N:Nat):Int),.int .i64 mm345.m.cur.ID.P,.int .u64 ((mm345.m.prom.N:Nat):Int),.int .i64 mm345.m.prom.P,.slice none 0 0,.int .u64 0,.slice none 0 0,.slice none 0 0,.int .u64 0,.int .u64 0]) Tryd.underlying27 inf53 rfl hs371 okb hkb (.tmp rfl rfl) (.tmp rfl rfl) (Kn.rows_one hr379) rfl (hs371.at_ 1 rfl 0 rfl) (by have:([(GOut.mk ((j:Nat):Int) (GFrame.mk 1 (((a.I % x.n):Nat):Int) (GViewID.mk 0 0) 0 mm345.m.cur.ID mm345.m.prom [] 0 [] [] 0 0))]:List GOut).length = 1:=rfl; omega) (by decide)) ?_
 rintro v372 w373 ⟨cs374,ok375,hk376,hs377⟩
 have hn378:(bl ++ [(GOut.mk ((j:Nat):Int) (GFrame.mk 1 (((a.I % x.n):Nat):Int) (GViewID.mk 0 0) 0 mm345.m.cur.ID mm345.m.prom [] 0 [] [] 0 0))]).length = bl.length + 1:=by simp
 refine u_new (S':=fun u => St H u (row 53 16 v372 ((bl ++ [(GOut.mk ((j:Nat):Int) (GFrame.mk 1 (((a.I % x.n):Nat):Int) (GViewID.mk 0 0) 0 mm345.m.cur.ID mm345.m.prom [] 0 [] [] 0 0))]).length) cs374::obj g367 53 [.int .i64 ((j:Nat):Int),.int .u8 1,.int .i64 (((a.I % x.n):Nat):Int),.int .u64 0,.int .i64 0,.int .u16 0,.int .u64 ((mm345.m.cur.ID.N:Nat):Int),.int .i64 mm345.m.cur.ID.P,.int .u64 ((mm345.m.prom.N:Nat):Int),.int .i64 mm345.m.prom.P,.slice none 0 0,.int .u64 0,.slice none 0 0,.slice none 0 0,.int .u64 0,.int .u64 0]::obj x.a 67 [.int .i64 ((x.n:Nat):Int),.slice x.A x.ln x.lc,bv,x.vv]::row 63 1 x.vv x.vs.length x.vc::L)) rfl (fun u hu => hu.drop.drop.drop) (St.dropL [row 53 16 v372 ((bl ++ [(GOut.mk ((j:Nat):Int) (GFrame.mk 1 (((a.I % x.n):Nat):Int) (GViewID.mk 0 0) 0 mm345.m.cur.ID mm345.m.prom [] 0 [] [] 0 0))]).length) cs374,obj g367 53 [.int .i64 ((j:Nat):Int),.int .u8 1,.int .i64 (((a.I % x.n):Nat):Int),.int .u64 0,.int .i64 0,.int .u16 0,.int .u64 ((mm345.m.cur.ID.N:Nat):Int),.int .i64 mm345.m.cur.ID.P,.int .u64 ((mm345.m.prom.N:Nat):Int),.int .i64 mm345.m.prom.P,.slice none 0 0,.int .u64 0,.slice none 0 0,.slice none 0 0,.int .u64 0,.int .u64 0],obj x.a 67 [.int .i64 ((x.n:Nat):Int),.slice x.A x.ln x.lc,bv,x.vv],row 63 1 x.vv x.vs.length x.vc] (St.dropL [row 53 16 v372 ((bl ++ [(GOut.mk ((j:Nat):Int) (GFrame.mk 1 (((a.I % x.n):Nat):Int) (GViewID.mk 0 0) 0 mm345.m.cur.ID mm345.m.prom [] 0 [] [] 0 0))]).length) cs374,obj g367 53 [.int .i64 ((j:Nat):Int),.int .u8 1,.int .i64 (((a.I % x.n):Nat):Int),.int .u64 0,.int .i64 0,.int .u16 0,.int .u64 ((mm345.m.cur.ID.N:Nat):Int),.int .i64 mm345.m.cur.ID.P,.int .u64 ((mm345.m.prom.N:Nat):Int),.int .i64 mm345.m.prom.P,.slice none 0 0,.int .u64 0,.slice none 0 0,.slice none 0 0,.int .u64 0,.int .u64 0],obj x.a 67 [.int .i64 ((x.n:Nat):Int),.slice x.A x.ln x.lc,bv,x.vv],row 63 1 x.vv x.vs.length x.vc] hs377)) ?_
 refine u_st (k:=28) (v:=.pointer (some ⟨x.a,0,none⟩)) rfl rfl (fun w hs => (x_nilCheck (.tmp rfl rfl))) ?_
 refine u_st (k:=29) (v:=.pointer (some ⟨x.a,0 + 2,none⟩)) rfl rfl (fun w hs => (fa67_2 (.tmp rfl rfl))) ?_
 refine u_eff (k:=30) rfl ?_
 obtain ⟨A380,c381,rfl,hc382⟩:=ok375.slice
 have hs383:=hs377.p2
 refine st_m0 (sto27 (cs':=[.int .i64 ((x.n:Nat):Int),.slice x.A x.ln x.lc,.slice A380 ((bl ++ [(GOut.mk ((j:Nat):Int) (GFrame.mk 1 (((a.I % x.n):Nat):Int) (GViewID.mk 0 0) 0 mm345.m.cur.ID mm345.m.prom [] 0 [] [] 0 0))]).length) c381,x.vv]) (i:=0 + 2) hs383 (v:=.slice A380 ((bl ++ [(GOut.mk ((j:Nat):Int) (GFrame.mk 1 (((a.I % x.n):Nat):Int) (GViewID.mk 0 0) 0 mm345.m.cur.ID mm345.m.prom [] 0 [] [] 0 0))]).length) c381) (.tmp rfl rfl) (.tmp rfl rfl) rfl (Nat.le_of_ble_eq_true rfl) one1 rfl) ?_
 rintro w384 hs386
 refine u_new (S':=fun u => St H u (obj x.a 67 [.int .i64 ((x.n:Nat):Int),.slice x.A x.ln x.lc,.slice A380 ((bl ++ [(GOut.mk ((j:Nat):Int) (GFrame.mk 1 (((a.I % x.n):Nat):Int) (GViewID.mk 0 0) 0 mm345.m.cur.ID mm345.m.prom [] 0 [] [] 0 0))]).length) c381,x.vv]::row 53 16 (.slice A380 ((bl ++ [(GOut.mk ((j:Nat):Int) (GFrame.mk 1 (((a.I % x.n):Nat):Int) (GViewID.mk 0 0) 0 mm345.m.cur.ID mm345.m.prom [] 0 [] [] 0 0))]).length) c381) ((bl ++ [(GOut.mk ((j:Nat):Int) (GFrame.mk 1 (((a.I % x.n):Nat):Int) (GViewID.mk 0 0) 0 mm345.m.cur.ID mm345.m.prom [] 0 [] [] 0 0))]).length) cs374::obj g367 53 [.int .i64 ((j:Nat):Int),.int .u8 1,.int .i64 (((a.I % x.n):Nat):Int),.int .u64 0,.int .i64 0,.int .u16 0,.int .u64 ((mm345.m.cur.ID.N:Nat):Int),.int .i64 mm345.m.cur.ID.P,.int .u64 ((mm345.m.prom.N:Nat):Int),.int .i64 mm345.m.prom.P,.slice none 0 0,.int .u64 0,.slice none 0 0,.slice none 0 0,.int .u64 0,.int .u64 0]::row 63 1 x.vv x.vs.length x.vc::L)) rfl (fun u hu => hu.drop.drop.drop) (St.dropL [obj x.a 67 [.int .i64 ((x.n:Nat):Int),.slice x.A x.ln x.lc,.slice A380 ((bl ++ [(GOut.mk ((j:Nat):Int) (GFrame.mk 1 (((a.I % x.n):Nat):Int) (GViewID.mk 0 0) 0 mm345.m.cur.ID mm345.m.prom [] 0 [] [] 0 0))]).length) c381,x.vv],row 53 16 (.slice A380 ((bl ++ [(GOut.mk ((j:Nat):Int) (GFrame.mk 1 (((a.I % x.n):Nat):Int) (GViewID.mk 0 0) 0 mm345.m.cur.ID mm345.m.prom [] 0 [] [] 0 0))]).length) c381) ((bl ++ [(GOut.mk ((j:Nat):Int) (GFrame.mk 1 (((a.I % x.n):Nat):Int) (GViewID.mk 0 0) 0 mm345.m.cur.ID mm345.m.prom [] 0 [] [] 0 0))]).length) cs374,obj g367 53 [.int .i64 ((j:Nat):Int),.int .u8 1,.int .i64 (((a.I % x.n):Nat):Int),.int .u64 0,.int .i64 0,.int .u16 0,.int .u64 ((mm345.m.cur.ID.N:Nat):Int),.int .i64 mm345.m.cur.ID.P,.int .u64 ((mm345.m.prom.N:Nat):Int),.int .i64 mm345.m.prom.P,.slice none 0 0,.int .u64 0,.slice none 0 0,.slice none 0 0,.int .u64 0,.int .u64 0],row 63 1 x.vv x.vs.length x.vc] (St.dropL [obj x.a 67 [.int .i64 ((x.n:Nat):Int),.slice x.A x.ln x.lc,.slice A380 ((bl ++ [(GOut.mk ((j:Nat):Int) (GFrame.mk 1 (((a.I % x.n):Nat):Int) (GViewID.mk 0 0) 0 mm345.m.cur.ID mm345.m.prom [] 0 [] [] 0 0))]).length) c381,x.vv],row 53 16 (.slice A380 ((bl ++ [(GOut.mk ((j:Nat):Int) (GFrame.mk 1 (((a.I % x.n):Nat):Int) (GViewID.mk 0 0) 0 mm345.m.cur.ID mm345.m.prom [] 0 [] [] 0 0))]).length) c381) ((bl ++ [(GOut.mk ((j:Nat):Int) (GFrame.mk 1 (((a.I % x.n):Nat):Int) (GViewID.mk 0 0) 0 mm345.m.cur.ID mm345.m.prom [] 0 [] [] 0 0))]).length) cs374,obj g367 53 [.int .i64 ((j:Nat):Int),.int .u8 1,.int .i64 (((a.I % x.n):Nat):Int),.int .u64 0,.int .i64 0,.int .u16 0,.int .u64 ((mm345.m.cur.ID.N:Nat):Int),.int .i64 mm345.m.cur.ID.P,.int .u64 ((mm345.m.prom.N:Nat):Int),.int .i64 mm345.m.prom.P,.slice none 0 0,.int .u64 0,.slice none 0 0,.slice none 0 0,.int .u64 0,.int .u64 0],row 63 1 x.vv x.vs.length x.vc] hs386)) ?_
 refine u_nil ?_
 refine n_block (n_then (c_region (st (v:=.int .i64 ((j:Nat):Int)) (x_move (.tmp rfl hρ331)) ?_)))
 refine st (v:=.int .i64 (((j + 1):Nat):Int)) (x_add (k:=.i64) (a:=((j:Nat):Int)) (b:=1) (.tmp rfl rfl) .const ((w64 (by omega) (by omega)).trans (by omega))) ?_
 refine st (v:=.int .i64 (((j + 1):Nat):Int)) (x_assign (.tmp rfl rfl)) ?_
 refine c_nil ?_
 refine n_then ⟨_,_,rfl,?_,(j + 1),(bl ++ [(GOut.mk ((j:Nat):Int) (GFrame.mk 1 (((a.I % x.n):Nat):Int) (GViewID.mk 0 0) 0 mm345.m.cur.ID mm345.m.prom [] 0 [] [] 0 0))]),(.slice A380 ((bl ++ [(GOut.mk ((j:Nat):Int) (GFrame.mk 1 (((a.I % x.n):Nat):Int) (GViewID.mk 0 0) 0 mm345.m.cur.ID mm345.m.prom [] 0 [] [] 0 0))]).length) c381),cs374,hρ329,hρ330,rfl,(by omega),ok375,hk376,(by rw [hbl]; exact beat_yes hm346 (by omega)),(by simp only [List.length_append,List.length_singleton]; omega),((((hs386.p2).drop.p2).p2).p2),rfl⟩
 omega
 have hp334:¬ ((((j:Nat):Int):Int) ≠ (((a.I % x.n):Nat):Int)):=of_decide_eq_false hc334
 refine c_cond_f (t:=false) (.tmp rfl (cVb hc334)) rfl ?_
 refine c_skip (n_block (n_then (c_region (st (v:=.int .i64 ((j:Nat):Int)) (x_move (.tmp rfl hρ331)) ?_))))
 refine st (v:=.int .i64 (((j + 1):Nat):Int)) (x_add (k:=.i64) (a:=((j:Nat):Int)) (b:=1) (.tmp rfl rfl) .const ((w64 (by omega) (by omega)).trans (by omega))) ?_
 refine st (v:=.int .i64 (((j + 1):Nat):Int)) (x_assign (.tmp rfl rfl)) ?_
 refine c_nil ?_
 refine n_then ⟨_,_,rfl,?_,(j + 1),bl,bv,bc,hρ329,hρ330,rfl,(by omega),okb,hkb,(by rw [hbl]; exact beat_no (by omega)),(by omega),(((hs332.p2).p2).p2),rfl⟩
 omega
 have hp333:¬ ((((j:Nat):Int):Int) < ((x.n:Nat):Int)):=of_decide_eq_false hc333
 refine c_cond_f (t:=false) (.tmp rfl (cVb hc333)) rfl ?_
 refine c_exit (x_then (x_then (x_here (n_block (leave_end (res_none rfl) ?_)))))
 have hs387:=hs332.p2
 have hs388:=hs387.p2
 have hs389:=hs388.p2
 have okg391:GR.ok (GR.mk x.n x.ms bl x.vs x.a x.A x.ln x.lc bv bc x.vv x.vc) H:=⟨ok_x.mok,ok_x.l,okb,hkb,ok_x.vok,ok_x.vhk⟩
 have hs390:St H _ (GR.res 67 53 63 39 78 81 37 (GR.mk x.n x.ms bl x.vs x.a x.A x.ln x.lc bv bc x.vv x.vc) ++ (L)):=St.grpShut (x:=(GR.mk x.n x.ms bl x.vs x.a x.A x.ln x.lc bv bc x.vv x.vc)) [] hs389
 have hs392:St H _ (GR.res 67 53 63 39 78 81 37 (GR.mk x.n x.ms bl x.vs x.a x.A x.ln x.lc bv bc x.vv x.vc) ++ (L)):=St.downL [] hs390
 exact ⟨H,(GR.mk x.n x.ms bl x.vs x.a x.A x.ln x.lc bv bc x.vv x.vc),(Hp.le.refl _),rfl,okg391,rfl,rfl,(mv_beat (by omega) (by rw [hbl,show j = x.n by omega])),hs392⟩
end Go.Proofs.YtcccaihjgoaehaaDoor

set_option linter.unusedVariables false
set_option linter.unusedSimpArgs false
namespace Go.Proofs.YtcccaihjgoaehaaDoor
open Go Go.FM Go.Proofs
attribute [local irreducible] wpList wpQuiet wpS Code.wp Calls
set_option maxHeartbeats 8000000 in
theorem begin_spec {H:Hp} {w:World} {L:List Res} (hs:St H w (L)) (n:Nat) (h1:1 ≤ n) (h2:n ≤ 16):Calls Tryd.prog 20 #[.int .i64 ((n:Nat):Int)] w (fun e w' => ∃ (H':Hp) (x0:GR),H.le H'∧e = .returned (.pointer (some ⟨x0.a,0,none⟩))∧GR.ok x0 H'∧x0.g = (GG.begin_ n)∧St H' w' (GR.res 67 53 63 39 78 81 37 x0 ++ (L))):=by
 refine enter (args:=[.int .i64 ((n:Nat):Int)]) (N:=43) Tryd.func20 rfl rfl rfl ?_
 refine c_seq (c_region (st (v:=.pointer none) (x_assign .const) ?_))
 refine c_nil (n_then (c_seq (c_region (st (v:=.int .i64 ((n:Nat):Int)) (x_move (.tmp rfl rfl)) ?_))))
 refine st (v:=.agg #[.int .i64 ((n:Nat):Int),.slice none 0 0,.slice none 0 0,.slice none 0 0]) (bl67 (ps:=[(0,.int .i64 ((n:Nat):Int))]) (.cons (.tmp rfl rfl) Evp.nil) rfl) ?_
 refine st_m (m_box (cs:=[.int .i64 ((n:Nat):Int),.slice none 0 0,.slice none 0 0,.slice none 0 0]) hs (v:=.agg #[.int .i64 ((n:Nat):Int),.slice none 0 0,.slice none 0 0,.slice none 0 0]) (.tmp rfl rfl) rfl) ?_
 rintro _ w2 ⟨g1,rfl,hs4⟩
 refine st (v:=.pointer (some ⟨g1,0,none⟩)) (x_assign (.tmp rfl rfl)) ?_
 refine c_nil (n_then (c_seq (c_seq (c_region (st (v:=.int .i64 0) (x_assign .const) ?_)))))
 refine c_nil (n_then (c_block ?_))
 have hs5:=hs4.krowNil 23 kPtr
 have hs6:=hs5.krowNil 63 kVR
 have hs7:=hs6.p1
 have hs8:=hs7.p2
 have hs9:St H _ (obj g1 67 [.int .i64 ((n:Nat):Int),(.slice none 0 0),.slice none 0 0,(.slice none 0 0)]::row 23 1 (.slice none 0 0) (([]:List Nat).length) []::row 63 1 (.slice none 0 0) (([]:List VR).length) []::memsR 78 81 37 [] ++ (vrsR 39 [] ++ (L))):=St.nilL (TM:=78) (TP:=81) (TS:=37) (TV:=39) [obj g1 67 [.int .i64 ((n:Nat):Int),(.slice none 0 0),.slice none 0 0,(.slice none 0 0)],row 23 1 (.slice none 0 0) (([]:List Nat).length) [],row 63 1 (.slice none 0 0) (([]:List VR).length) []] hs8
 refine c_loop (fun ρ w mm => ∃ (j:Nat) (ms:List MM) (vs:List VR) (lv:Value) (lc:List Value) (vv:Value) (vc:List Value),ρ 0 = .int .i64 ((n:Nat):Int)∧ρ 3 = .pointer (some ⟨g1,0,none⟩)∧ρ 4 = .int .i64 ((j:Nat):Int)∧(j ≤ n)∧(RowOk kPtr.sz lv (ptrs ms).length lc)∧(kPtr.toKn.rows H (ptrs ms) lc)∧(RowOk kVR.sz vv vs.length vc)∧(kVR.toKn.rows H vs vc)∧(MsOk ms H)∧(mbs ms = (List.range j).map (MB.new n))∧(vxs vs = List.replicate j [])∧((ptrs ms).length = j)∧(vs.length = j)∧St H w (obj g1 67 [.int .i64 ((n:Nat):Int),lv,.slice none 0 0,vv]::row 23 1 lv ((ptrs ms).length) lc::row 63 1 vv vs.length vc::memsR 78 81 37 ms ++ (vrsR 39 vs ++ (L)))∧mm = n - j) _ ⟨0,[],[],(.slice none 0 0),[],(.slice none 0 0),[],rfl,rfl,rfl,(by omega),(RowOk.knil kPtr),(Kn.rows_nil _ _),(RowOk.knil kVR),(Kn.rows_nil _ _),(MsOk.nil _),rfl,rfl,rfl,rfl,(((hs9.p2).p2).p2),rfl⟩ ?_
 rintro ρ w mm ⟨j,ms,vs,lv,lc,vv,vc,hρ11,hρ12,hρ13,hj,okl,hkl,okv,hkv,mok,hms,hvs,hll,hvl,hs14,rfl⟩
 refine c_seq (c_seq (c_region (st (v:=.int .i64 ((j:Nat):Int)) (x_move (.tmp rfl hρ13)) ?_)))
 refine st (v:=.int .i64 ((n:Nat):Int)) (x_move (.tmp rfl hρ11)) ?_
 refine st (v:=.bool (decide ((((j:Nat):Int):Int) < ((n:Nat):Int)))) (x_lss (k:=.i64) (a:=((j:Nat):Int)) (b:=((n:Nat):Int)) (.tmp rfl rfl) (.tmp rfl rfl)) ?_
 refine c_nil (n_then ?_)
 rcases Bool.eq_false_or_eq_true (decide ((((j:Nat):Int):Int) < ((n:Nat):Int))) with hc15 | hc15
 have hp15:(((j:Nat):Int):Int) < ((n:Nat):Int):=of_decide_eq_true hc15
 refine c_cond_t (t:=true) (.tmp rfl (cVb hc15)) rfl ?_
 refine c_skip (n_then (c_seq (c_block (c_seq (c_region (st (v:=.int .i64 ((n:Nat):Int)) (x_move (.tmp rfl hρ11)) ?_))))))
 refine st (v:=.int .i64 ((j:Nat):Int)) (x_move (.tmp rfl hρ13)) ?_
 refine st_c cb11 .func (evs2 (.tmp rfl rfl) (.tmp rfl rfl)) (new_mm hs14 n j (by omega) (by omega) (by omega)) ?_
 rintro e w16 ⟨mm18,rfl,mok19,hmm20,hs17⟩
 refine ⟨_,rfl,?_⟩
 have hs22:St H _ (obj g1 67 [.int .i64 ((n:Nat):Int),lv,.slice none 0 0,vv]::row 23 1 lv ((ptrs ms).length) lc::row 63 1 vv vs.length vc::MM.res 78 81 37 mm18 ++ (memsR 78 81 37 ms ++ (vrsR 39 vs ++ (L)))):=St.downL [obj g1 67 [.int .i64 ((n:Nat):Int),lv,.slice none 0 0,vv],row 23 1 lv ((ptrs ms).length) lc,row 63 1 vv vs.length vc] hs17
 refine st (v:=.tuple #[.pointer (some ⟨mm18.g,0,none⟩),.int .i64 0]) (x_move (.tmp rfl rfl)) ?_
 refine st (v:=.pointer (some ⟨mm18.g,0,none⟩)) (x_extract (.tmp rfl rfl) (i:=0) rfl) ?_
 refine st (v:=.int .i64 0) (x_extract (.tmp rfl rfl) (i:=1) rfl) ?_
 refine st (v:=.pointer (some ⟨mm18.g,0,none⟩)) (x_assign (.tmp rfl rfl)) ?_
 refine st (v:=.int .i64 0) (x_assign (.tmp rfl rfl)) ?_
 refine c_nil (n_then (c_seq (c_seq (c_region (st (v:=.int .i64 0) (x_move (.tmp rfl rfl)) ?_)))))
 refine st (v:=.bool false) (x_neq (k:=.i64) (a:=0) (b:=0) (.tmp rfl rfl) .const) ?_
 refine c_nil (n_then (c_cond_f (t:=false) (.tmp rfl rfl) rfl ?_))
 refine c_skip (n_then (c_seq (c_region (st (v:=.pointer (some ⟨g1,0,none⟩)) (x_move (.tmp rfl hρ12)) ?_))))
 refine st (v:=.pointer (some ⟨g1,0,none⟩)) (x_move (.tmp rfl hρ12)) ?_
 refine st (v:=.pointer (some ⟨g1,0,none⟩)) (x_nilCheck (.tmp rfl rfl)) ?_
 refine st (v:=.pointer (some ⟨g1,0 + 1,none⟩)) (fa67_1 (.tmp rfl rfl)) ?_
 refine st (v:=lv) (ld64 (.tmp rfl rfl) (hs22.cell 0 rfl (0 + 1) rfl)) ?_
 refine st (v:=.pointer (some ⟨mm18.g,0,none⟩)) (x_move (.tmp rfl rfl)) ?_
 refine st_m (m_lit (n:=1) (ps:=[(0,.pointer (some ⟨mm18.g,0,none⟩))]) (cs:=[.pointer (some ⟨mm18.g,0,none⟩)]) Tryd.underlying64 inf23 (.cons (.tmp rfl rfl) Evp.nil) (by decide) (by decide) rfl rfl hs22) ?_
 rintro _ w24 ⟨g23,rfl,hs26⟩
 have hs27:=hs26.p2
 have hr35:kPtr.rep H mm18.g [.pointer (some ⟨mm18.g,0,none⟩)]:=rfl
 refine st_m (m_appK (d:=kPtr) (ys:=[mm18.g]) (news:=[.pointer (some ⟨mm18.g,0,none⟩)]) Tryd.underlying64 inf23 rfl hs27 okl hkl (.tmp rfl rfl) (.tmp rfl rfl) (Kn.rows_one hr35) rfl (hs27.at_ 1 rfl 0 rfl) (by have:([mm18.g]:List Nat).length = 1:=rfl; omega) (by decide)) ?_
 rintro v28 w29 ⟨cs30,ok31,hk32,hs33⟩
 have hn34:((ptrs ms) ++ [mm18.g]).length = (ptrs ms).length + 1:=by simp
 refine st (v:=.pointer (some ⟨g1,0,none⟩)) (x_nilCheck (.tmp rfl rfl)) ?_
 refine st (v:=.pointer (some ⟨g1,0 + 1,none⟩)) (fa67_1 (.tmp rfl rfl)) ?_
 obtain ⟨A36,c37,rfl,hc38⟩:=ok31.slice
 have hs39:=hs33.p2
 refine st_m0 (sto64 (cs':=[.int .i64 ((n:Nat):Int),.slice A36 (((ptrs ms) ++ [mm18.g]).length) c37,.slice none 0 0,vv]) (i:=0 + 1) hs39 (v:=.slice A36 (((ptrs ms) ++ [mm18.g]).length) c37) (.tmp rfl rfl) (.tmp rfl rfl) rfl (Nat.le_of_ble_eq_true rfl) one1 rfl) ?_
 rintro w40 hs42
 refine c_nil (n_then (c_region (st (v:=.pointer (some ⟨g1,0,none⟩)) (x_move (.tmp rfl hρ12)) ?_)))
 refine st (v:=.pointer (some ⟨g1,0,none⟩)) (x_move (.tmp rfl hρ12)) ?_
 refine st (v:=.pointer (some ⟨g1,0,none⟩)) (x_nilCheck (.tmp rfl rfl)) ?_
 refine st (v:=.pointer (some ⟨g1,0 + 3,none⟩)) (fa67_3 (.tmp rfl rfl)) ?_
 refine st (v:=vv) (ld65 (.tmp rfl rfl) (hs42.cell 0 rfl (0 + 3) rfl)) ?_
 refine st_m (m_lit (n:=1) (ps:=[(0,.slice none 0 0)]) (cs:=[.slice none 0 0]) Tryd.underlying65 inf63 (.cons .const Evp.nil) (by decide) (by decide) rfl rfl hs42) ?_
 rintro _ w44 ⟨g43,rfl,hs46⟩
 have hs47:=hs46.p4
 have hr55:kVR.rep H (VR.mk (.slice none 0 0) [] []) [.slice none 0 0]:=⟨rfl,(RowOk.nil 3),(Kn.rows_nil _ _)⟩
 refine st_m (m_appK (d:=kVR) (ys:=[(VR.mk (.slice none 0 0) [] [])]) (news:=[.slice none 0 0]) Tryd.underlying65 inf63 rfl hs47 okv hkv (.tmp rfl rfl) (.tmp rfl rfl) (Kn.rows_one hr55) rfl (hs47.at_ 1 rfl 0 rfl) (by have:([(VR.mk (.slice none 0 0) [] [])]:List VR).length = 1:=rfl; omega) (by decide)) ?_
 rintro v48 w49 ⟨cs50,ok51,hk52,hs53⟩
 have hn54:(vs ++ [(VR.mk (.slice none 0 0) [] [])]).length = vs.length + 1:=by simp
 refine st (v:=.pointer (some ⟨g1,0,none⟩)) (x_nilCheck (.tmp rfl rfl)) ?_
 refine st (v:=.pointer (some ⟨g1,0 + 3,none⟩)) (fa67_3 (.tmp rfl rfl)) ?_
 obtain ⟨A56,c57,rfl,hc58⟩:=ok51.slice
 have hs59:=hs53.p2
 refine st_m0 (sto65 (cs':=[.int .i64 ((n:Nat):Int),.slice A36 (((ptrs ms) ++ [mm18.g]).length) c37,.slice none 0 0,.slice A56 ((vs ++ [(VR.mk (.slice none 0 0) [] [])]).length) c57]) (i:=0 + 3) hs59 (v:=.slice A56 ((vs ++ [(VR.mk (.slice none 0 0) [] [])]).length) c57) (.tmp rfl rfl) (.tmp rfl rfl) rfl (Nat.le_of_ble_eq_true rfl) one1 rfl) ?_
 rintro w60 hs62
 refine c_nil (n_block (n_then (c_region (st (v:=.int .i64 ((j:Nat):Int)) (x_move (.tmp rfl hρ13)) ?_))))
 refine st (v:=.int .i64 (((j + 1):Nat):Int)) (x_add (k:=.i64) (a:=((j:Nat):Int)) (b:=1) (.tmp rfl rfl) .const ((w64 (by omega) (by omega)).trans (by omega))) ?_
 refine st (v:=.int .i64 (((j + 1):Nat):Int)) (x_assign (.tmp rfl rfl)) ?_
 refine c_nil ?_
 have hs63:=hs62.p1
 have hs64:=hs63.p3
 have hs65:=hs64.p2
 have hs66:St H _ (obj g1 67 [.int .i64 ((n:Nat):Int),.slice A36 (((ptrs ms) ++ [mm18.g]).length) c37,.slice none 0 0,.slice A56 ((vs ++ [(VR.mk (.slice none 0 0) [] [])]).length) c57]::row 23 1 (.slice A36 (((ptrs ms) ++ [mm18.g]).length) c37) (((ptrs ms) ++ [mm18.g]).length) cs30::row 63 1 (.slice A56 ((vs ++ [(VR.mk (.slice none 0 0) [] [])]).length) c57) ((vs ++ [(VR.mk (.slice none 0 0) [] [])]).length) cs50::obj g43 63 [.slice none 0 0]::obj g23 23 [.pointer (some ⟨mm18.g,0,none⟩)]::memsR 78 81 37 (ms ++ [mm18]) ++ (vrsR 39 vs ++ (L))):=St.mmSnoc [obj g1 67 [.int .i64 ((n:Nat):Int),.slice A36 (((ptrs ms) ++ [mm18.g]).length) c37,.slice none 0 0,.slice A56 ((vs ++ [(VR.mk (.slice none 0 0) [] [])]).length) c57],row 23 1 (.slice A36 (((ptrs ms) ++ [mm18.g]).length) c37) (((ptrs ms) ++ [mm18.g]).length) cs30,row 63 1 (.slice A56 ((vs ++ [(VR.mk (.slice none 0 0) [] [])]).length) c57) ((vs ++ [(VR.mk (.slice none 0 0) [] [])]).length) cs50,obj g43 63 [.slice none 0 0],obj g23 23 [.pointer (some ⟨mm18.g,0,none⟩)]] hs65
 have hs67:=hs66.rowNil 39 3
 have hs68:St H _ (obj g1 67 [.int .i64 ((n:Nat):Int),.slice A36 (((ptrs ms) ++ [mm18.g]).length) c37,.slice none 0 0,.slice A56 ((vs ++ [(VR.mk (.slice none 0 0) [] [])]).length) c57]::row 23 1 (.slice A36 (((ptrs ms) ++ [mm18.g]).length) c37) (((ptrs ms) ++ [mm18.g]).length) cs30::row 63 1 (.slice A56 ((vs ++ [(VR.mk (.slice none 0 0) [] [])]).length) c57) ((vs ++ [(VR.mk (.slice none 0 0) [] [])]).length) cs50::obj g43 63 [.slice none 0 0]::obj g23 23 [.pointer (some ⟨mm18.g,0,none⟩)]::memsR 78 81 37 (ms ++ [mm18]) ++ (vrsR 39 (vs ++ [(VR.mk (.slice none 0 0) [] [])]) ++ (L))):=St.vrSnoc (q:=(VR.mk (.slice none 0 0) [] [])) (TV:=39) [obj g1 67 [.int .i64 ((n:Nat):Int),.slice A36 (((ptrs ms) ++ [mm18.g]).length) c37,.slice none 0 0,.slice A56 ((vs ++ [(VR.mk (.slice none 0 0) [] [])]).length) c57],row 23 1 (.slice A36 (((ptrs ms) ++ [mm18.g]).length) c37) (((ptrs ms) ++ [mm18.g]).length) cs30,row 63 1 (.slice A56 ((vs ++ [(VR.mk (.slice none 0 0) [] [])]).length) c57) ((vs ++ [(VR.mk (.slice none 0 0) [] [])]).length) cs50,obj g43 63 [.slice none 0 0],obj g23 23 [.pointer (some ⟨mm18.g,0,none⟩)]] hs67
 have hs69:St H _ (obj g1 67 [.int .i64 ((n:Nat):Int),.slice A36 (((ptrs ms) ++ [mm18.g]).length) c37,.slice none 0 0,.slice A56 ((vs ++ [(VR.mk (.slice none 0 0) [] [])]).length) c57]::row 23 1 (.slice A36 (((ptrs ms) ++ [mm18.g]).length) c37) ((ptrs (ms ++ [mm18])).length) cs30::row 63 1 (.slice A56 ((vs ++ [(VR.mk (.slice none 0 0) [] [])]).length) c57) ((vs ++ [(VR.mk (.slice none 0 0) [] [])]).length) cs50::obj g43 63 [.slice none 0 0]::obj g23 23 [.pointer (some ⟨mm18.g,0,none⟩)]::memsR 78 81 37 (ms ++ [mm18]) ++ (vrsR 39 (vs ++ [(VR.mk (.slice none 0 0) [] [])]) ++ (L))):=St.rowLen (by rw [ptrs_snoc]) [obj g1 67 [.int .i64 ((n:Nat):Int),.slice A36 (((ptrs ms) ++ [mm18.g]).length) c37,.slice none 0 0,.slice A56 ((vs ++ [(VR.mk (.slice none 0 0) [] [])]).length) c57]] hs68
 refine n_then ⟨_,_,rfl,?_,(j + 1),(ms ++ [mm18]),(vs ++ [(VR.mk (.slice none 0 0) [] [])]),(.slice A36 (((ptrs ms) ++ [mm18.g]).length) c37),cs30,(.slice A56 ((vs ++ [(VR.mk (.slice none 0 0) [] [])]).length) c57),cs50,hρ11,hρ12,rfl,(by omega),(by rw [ptrs_snoc]; exact ok31),(by rw [ptrs_snoc]; exact hk32),ok51,hk52,(MsOk.snoc mok mok19),(mbs_snoc hms hmm20),(vxs_snoc hvs rfl),(by rw [ptrs_snoc,List.length_append,hll]; rfl),(by rw [List.length_append,hvl]; rfl),(((((hs69.p3).drop.p3).drop.p2).p2).p2),rfl⟩
 omega
 have hp15:¬ ((((j:Nat):Int):Int) < ((n:Nat):Int)):=of_decide_eq_false hc15
 refine c_cond_f (t:=false) (.tmp rfl (cVb hc15)) rfl ?_
 refine c_exit (x_then (x_then (x_here (n_then (c_seq (c_region ?_))))))
 have hjn:j = n:=by omega
 refine st (v:=.pointer (some ⟨g1,0,none⟩)) (x_move (.tmp rfl hρ12)) ?_
 refine st (v:=.pointer (some ⟨g1,0,none⟩)) (x_assign (.tmp rfl rfl)) ?_
 refine c_nil (n_then (c_ret (leave_ret (res_one (v:=.pointer (some ⟨g1,0,none⟩)) rfl (.mk rfl rfl)) ?_)))
 have hs70:=hs14.p1
 have:(ptrs ms).length * 8 ≤ 140737488351232:=by omega
 obtain ⟨H71,A72,c73,hle74,hs75,rfl,sp76⟩:=hs70.freezeSl (d:=kPtr) okl hkl this
 have:=sp76.len; have:=sp76.le
 have hs77:=hs75.krowNil 53 kOut
 have hs78:=hs77.p2
 have hs79:=hs78.p1
 have hs80:=hs79.p2
 have okg82:GR.ok (GR.mk n ms ([]:List GOut) vs g1 A72 ((ptrs ms).length) c73 (.slice none 0 0) [] vv vc) H71:=⟨(MsOk.mono mok hle74),sp76,(RowOk.knil kOut),(Kn.rows_nil _ _),okv,(Kn.rows_mono hkv hle74)⟩
 have hs81:St H71 _ (GR.res 67 53 63 39 78 81 37 (GR.mk n ms ([]:List GOut) vs g1 A72 ((ptrs ms).length) c73 (.slice none 0 0) [] vv vc) ++ (L)):=St.grpShut (x:=(GR.mk n ms ([]:List GOut) vs g1 A72 ((ptrs ms).length) c73 (.slice none 0 0) [] vv vc)) [] hs80
 have hs83:St H71 _ (GR.res 67 53 63 39 78 81 37 (GR.mk n ms ([]:List GOut) vs g1 A72 ((ptrs ms).length) c73 (.slice none 0 0) [] vv vc) ++ (L)):=St.downL [] hs81
 exact ⟨H71,(GR.mk n ms ([]:List GOut) vs g1 A72 ((ptrs ms).length) c73 (.slice none 0 0) [] vv vc),hle74,rfl,okg82,(begin_g (by rw [hms,hjn]) (by rw [hvs,hjn])),hs83⟩
end Go.Proofs.YtcccaihjgoaehaaDoor
