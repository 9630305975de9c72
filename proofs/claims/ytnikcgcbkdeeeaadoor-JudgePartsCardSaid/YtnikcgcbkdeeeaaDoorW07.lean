/- Steps of the proofs over the functions of this seat, printed by a program (gen.py) and checked by Lean. -/
import Derived.Test.YtnikcgcbkdeeeaaDoorW01
import Derived.Test.YtnikcgcbkdeeeaaDoorW00
import Derived.Test.YtnikcgcbkdeeeaaDoorW02
import Derived.Test.YtnikcgcbkdeeeaaDoorW06
set_option linter.unusedVariables false
set_option linter.unusedSimpArgs false
namespace Go.Proofs.YtnikcgcbkdeeeaaDoor
open Go Go.FM Go.Proofs
attribute [local irreducible] wpList wpQuiet Code.wp Calls
set_option maxHeartbeats 8000000 in
theorem traces_spec {H:Hp} {w:World} {L:List Res} (hs:St H w (L)) (n:Nat) {A_runs:Option Addr} {n_runs c_runs:Nat} (runs:(List GRun)) (h_runs:Sl kRun H A_runs n_runs c_runs runs) (h1:1 ≤ n) (h6:n ≤ 6):Calls Tryd.prog 17 #[.int .i64 ((n:Nat):Int),.slice A_runs n_runs c_runs] w (fun e w' => ∃ (H':Hp) (v0:Value) (cs0:List Value),H.le H'∧e = .returned (v0)∧RowOk (kSl kEvent).sz v0 ((tracesP n runs)).length cs0∧(kSl kEvent).toKn.rows H' ((tracesP n runs)) cs0∧St H' w' (row 41 (kSl kEvent).sz v0 ((tracesP n runs)).length cs0::L)):=by
 have:=h_runs.len; have:=h_runs.le; have:n_runs * 80 ≤ 140737488351232:=h_runs.bnd
 refine enter (args:=[.int .i64 ((n:Nat):Int),.slice A_runs n_runs c_runs]) (N:=260) Tryd.func17 rfl rfl rfl ?_
 have hp2:=pow2_six (n:=n) (by omega) (by omega)
 have hpm:1 * 2 ^ n % 65536 = 2 ^ n:=by rw [Nat.one_mul,Nat.mod_eq_of_lt (by omega)]
 refine c_seq (c_region (st (v:=.slice none 0 0) (x_assign .const) ?_))
 refine c_nil (n_then (c_seq (c_region (st (v:=.int .i64 ((n:Nat):Int)) (x_move (.tmp rfl rfl)) ?_))))
 have hr7:kER.rep H er0 [.slice none 0 0]:=⟨rfl,(RowOk.nil 6),(Kn.rows_nil _ _)⟩
 refine st_m (m_makeK (d:=kER) (y0:=er0) (i:=((n:Nat):Int)) Tryd.underlying36 inf41 hr7 hs (.tmp rfl rfl) (.tmp rfl rfl) (by omega) (by omega) (by decide)) ?_
 rintro v1 w2 ⟨cs3,ok4,hk5,hs6⟩
 have hn9:(List.replicate n (er0:ER)).length = n:=by simp
 refine st (v:=v1) (x_assign (.tmp rfl rfl)) ?_
 refine c_nil (n_then (c_seq (c_seq (c_region (st (v:=.int .i64 0) (x_assign .const) ?_)))))
 refine c_nil (n_then (c_block ?_))
 have hs11:St H _ (row 41 1 v1 ((List.replicate n (er0:ER)).length) cs3::ersR 49 (List.replicate n er0) ++ (L)):=St.erInit' [row 41 1 v1 ((List.replicate n (er0:ER)).length) cs3] hs6 n
 refine c_loop (fun ρ w mm => ∃ (H12:Hp) (r:Nat) (lv:Value) (es:List ER) (lc:List Value),ρ 0 = .int .i64 ((n:Nat):Int)∧ρ 1 = .slice A_runs n_runs c_runs∧ρ 5 = lv∧ρ 6 = .int .i64 ((r:Nat):Int)∧(H.le H12)∧(RowOk kER.sz lv es.length lc)∧(kER.toKn.rows H12 es lc)∧(exs es = (List.range n).map (ph0 n runs r))∧(es.length = n)∧(r ≤ n_runs∧r ≤ 6)∧St H12 w (row 41 1 lv es.length lc::ersR 49 es ++ (L))∧mm = n_runs - r) _ ⟨H,0,v1,(List.replicate n (er0:ER)),cs3,rfl,rfl,rfl,rfl,(Hp.le.refl _),ok4,hk5,exs_zero,List.length_replicate,(by omega),hs11,rfl⟩ ?_
 rintro ρ w mm ⟨H12,r,lv,es,lc,hρ14,hρ15,hρ16,hρ17,hg13,okes,hkes,hTs,heles,hr,hs18,rfl⟩
 refine c_seq (c_seq (c_region (st (v:=.int .i64 ((r:Nat):Int)) (x_move (.tmp rfl hρ17)) ?_)))
 refine st (v:=.slice A_runs n_runs c_runs) (x_move (.tmp rfl hρ15)) ?_
 refine st (v:=.int .i64 ((n_runs:Nat):Int)) (x_len (n:=n_runs) Tryd.underlying38 (.tmp rfl rfl)) ?_
 refine st (v:=.bool (decide ((((r:Nat):Int):Int) < ((n_runs:Nat):Int)))) (x_lss (k:=.i64) (a:=((r:Nat):Int)) (b:=((n_runs:Nat):Int)) (.tmp rfl rfl) (.tmp rfl rfl)) ?_
 refine st (v:=.bool (decide ((((r:Nat):Int):Int) < ((n_runs:Nat):Int)))) (x_move (.tmp rfl rfl)) ?_
 refine jw 3 (fun ρ w => ρ 30 = .bool ((decide ((((r:Nat):Int):Int) < ((n_runs:Nat):Int))) && (decide ((((r:Nat):Int):Int) < 6)))∧ρ 0 = .int .i64 ((n:Nat):Int)∧ρ 1 = .slice A_runs n_runs c_runs∧ρ 5 = lv∧ρ 6 = .int .i64 ((r:Nat):Int)∧St H12 w (row 41 1 lv es.length lc::ersR 49 es ++ (L))) ?_ ?_
 rcases Bool.eq_false_or_eq_true (decide ((((r:Nat):Int):Int) < ((n_runs:Nat):Int))) with hc19 | hc19
 have hp19:(((r:Nat):Int):Int) < ((n_runs:Nat):Int):=of_decide_eq_true hc19
 refine g_yes (yk 27 true rfl rfl hc19) ?_
 refine st (v:=.int .i64 ((r:Nat):Int)) (x_move (.tmp rfl hρ17)) ?_
 refine g_yes (yk 27 true rfl rfl hc19) ?_
 refine st (v:=.bool (decide ((((r:Nat):Int):Int) < 6))) (x_lss (k:=.i64) (a:=((r:Nat):Int)) (b:=6) (.tmp rfl rfl) .const) ?_
 refine st (v:=.bool (decide ((((r:Nat):Int):Int) < 6))) (x_pick_t (.tmp rfl (cVb hc19)) (.tmp rfl rfl)) ?_
 exact jw_end ⟨(cVb (jand_t hc19)),hρ14,hρ15,hρ16,hρ17,hs18⟩
 have hp19:¬ ((((r:Nat):Int):Int) < ((n_runs:Nat):Int)):=of_decide_eq_false hc19
 refine g_no (yk 27 false rfl rfl hc19) rfl ?_
 refine g_no (yk 27 false rfl rfl hc19) rfl ?_
 refine st (v:=.bool false) (x_pick_f (.tmp rfl (cVb hc19)) .const) ?_
 exact jw_end ⟨(cVb (jand_f hc19)),hρ14,hρ15,hρ16,hρ17,hs18⟩
 rintro ρ w ⟨hρ20,hρ21,hρ22,hρ23,hρ24,hs25⟩
 refine c_nil (n_then ?_)
 rcases Bool.eq_false_or_eq_true ((decide ((((r:Nat):Int):Int) < ((n_runs:Nat):Int))) && (decide ((((r:Nat):Int):Int) < 6))) with hc26 | hc26
 have hp26:((((r:Nat):Int):Int) < ((n_runs:Nat):Int))∧((((r:Nat):Int):Int) < 6):=((J_and decide_eq_true_iff decide_eq_true_iff)).1 hc26
 refine c_cond_t (t:=true) (.tmp rfl (hρ20.trans (cVb hc26))) rfl ?_
 refine c_skip (n_then (c_seq (c_block (c_seq (t_region (L:=row 41 1 lv es.length lc::ersR 49 es ++ (L)) (L':=row 41 1 lv es.length lc::L) (Z:=[16]) (F:=[]) (pl:=(.q 0 (.q 1 (.q 2 (.q 3 (.q 4 (.q 5 (.q 6 (.q 7 (.q 8 (.q 9 (.q 10 (.q 11 (.q 12 (.q 13 (.q 14 (.e 15 (.e 16 .done)))))))))))))))))) mixed hs25 (fun u hu => (St.erDrop [row 41 1 lv es.length lc] hu)) (by kernel_rfl) ?_)))))
 intro w27 hs28
 refine t_st (k:=0) (v:=.int .i64 ((r:Nat):Int)) rfl rfl (fun w hs => (x_move (.tmp rfl hρ24))) ?_
 have hb29:r < 18446744073709551616:=by omega
 refine t_st (k:=1) (v:=.int .u64 ((r:Nat):Int)) rfl rfl (fun w hs => (x_conv (k:=.i64) (a:=((r:Nat):Int)) Tryd.underlying3 Tryd.underlying42 (.tmp rfl rfl) (wU rfl rfl hb29))) ?_
 have hb30:(r + 1) < 18446744073709551616:=by omega
 refine t_st (k:=2) (v:=.int .u64 (((r + 1):Nat):Int)) rfl rfl (fun w hs => (x_add (k:=.u64) (a:=((r:Nat):Int)) (b:=1) (.tmp rfl rfl) .const (wU rfl (by omega) hb30))) ?_
 refine t_st (k:=3) (v:=.agg #[.int .u64 (((r + 1):Nat):Int),.int .i64 0]) rfl rfl (fun w hs => (bl44 (ps:=[(0,.int .u64 (((r + 1):Nat):Int))]) (.cons (.tmp rfl rfl) Evp.nil) rfl)) ?_
 refine t_st (k:=4) (v:=.slice A_runs n_runs c_runs) rfl rfl (fun w hs => (x_move (.tmp rfl hρ22))) ?_
 refine t_st (k:=5) (v:=.int .i64 ((r:Nat):Int)) rfl rfl (fun w hs => (x_move (.tmp rfl hρ24))) ?_
 obtain ⟨e31,b32,o33,cs34,hx35,hA36,hr37,hat38⟩:=(h_runs.mono hg13).get (i:=r) (by omega)
 obtain ⟨A40,n41,c42,A44,n45,c46,A48,n49,c50,rfl,b39,hl43,hy47,hy51⟩:=hr37
 have:=hl43.len; have:n41 * 32 ≤ 140737488351232:=hl43.bnd; have:=hl43.le
 have:=hy47.len; have:=hy47.bnd; have:=hy47.le
 have:=hy51.len; have:=hy51.bnd; have:=hy51.le
 have hat38x:∀ {w:World} {L:List Res},St H12 w L → At w ⟨b32,o33 + r * 4,none⟩ [.int .u16 ((e31.Set:Nat):Int),.slice A40 n41 c42,.slice A44 n45 c46,.slice A48 n49 c50]:=fun h => hat38 h
 have hSi_e31:e31.Set % (1 * 2 ^ n % 65536 - 1) + 1 = setR n e31:=setR_is (by omega) (by omega)
 have hSr_e31:=setR_lt (x:=e31) (n:=n) (by omega) (by omega)
 have hS_e31:setR n e31 < 65536:=by omega
 have:e31.Set % (1 * 2 ^ n % 65536 - 1) < 1 * 2 ^ n % 65536 - 1:=Nat.mod_lt _ (by omega)
 refine t_st (k:=6) (v:=.pointer (some ⟨b32,(o33 + r * 4),none⟩)) rfl rfl (fun w hs => (ixo38 (.tmp rfl rfl) hA36 (i:=((r:Nat):Int)) (.tmp rfl rfl) (by omega) (by omega) (by omega))) ?_
 refine t_st (k:=7) (v:=.pointer (some ⟨b32,(o33 + r * 4) + 0,none⟩)) rfl rfl (fun w hs => (fa67_0 (.tmp rfl rfl))) ?_
 refine t_st (k:=8) (v:=.int .u16 ((e31.Set:Nat):Int)) rfl rfl (fun w hs => (ld45 (.tmp rfl rfl) ((hat38x hs).cell 0 rfl))) ?_
 refine t_st (k:=9) (v:=.int .i64 ((n:Nat):Int)) rfl rfl (fun w hs => (x_move (.tmp rfl hρ21))) ?_
 have hb52:(1 * 2 ^ n % 65536) < 65536:=Nat.mod_lt _ (by decide)
 refine t_st (k:=10) (v:=.int .u16 (((1 * 2 ^ n % 65536):Nat):Int)) rfl rfl (fun w hs => (x_shl (k:=.u16) (m:=1) (b:=((n:Nat):Int)) rfl .const (.tmp rfl rfl) (by omega))) ?_
 have hb53:((1 * 2 ^ n % 65536) - 1) < 65536:=by omega
 refine t_st (k:=11) (v:=.int .u16 ((((1 * 2 ^ n % 65536) - 1):Nat):Int)) rfl rfl (fun w hs => (x_sub (k:=.u16) (a:=(((1 * 2 ^ n % 65536):Nat):Int)) (b:=1) (.tmp rfl rfl) .const (wU rfl (by omega) hb53))) ?_
 refine t_st (k:=12) (v:=.int .u16 (((e31.Set % ((1 * 2 ^ n % 65536) - 1)):Nat):Int)) rfl rfl (fun w hs => (x_remN (k:=.u16) (m:=e31.Set) (n:=((1 * 2 ^ n % 65536) - 1)) (.tmp rfl rfl) (.tmp rfl rfl) (by omega))) ?_
 refine t_st (k:=13) (v:=.int .u16 (((setR n e31):Nat):Int)) rfl rfl (fun w hs => (x_add (k:=.u16) (a:=(((e31.Set % ((1 * 2 ^ n % 65536) - 1)):Nat):Int)) (b:=1) (.tmp rfl rfl) .const (wU rfl (by have:=hSi_e31; omega) hS_e31))) ?_
 refine t_st (k:=14) (v:=.agg #[.int .u64 (((r + 1):Nat):Int),.int .i64 0,.int .u16 (((setR n e31):Nat):Int)]) rfl rfl (fun w hs => (bl47 (ps:=[(0,.agg #[.int .u64 (((r + 1):Nat):Int),.int .i64 0]),(1,.int .u16 (((setR n e31):Nat):Int))]) (.cons (.tmp rfl rfl) (.cons (.tmp rfl rfl) Evp.nil)) rfl)) ?_
 refine t_eff (k:=15) rfl ?_
 refine st_m (al47 (cs:=[.int .u64 0,.int .i64 0,.int .u16 0]) hs28 rfl) ?_
 rintro _ w55 ⟨g54,rfl,hs57⟩
 refine t_on (S':=fun u => St H12 u (obj g54 47 [.int .u64 0,.int .i64 0,.int .u16 0]::row 41 1 lv es.length lc::L)) (fun u hu => hu.drop) (St.erDrop [obj g54 47 [.int .u64 0,.int .i64 0,.int .u16 0],row 41 1 lv es.length lc] hs57) ?_
 refine t_eff (k:=16) rfl ?_
 refine st_m0 (sto47 (cs':=[.int .u64 (((r + 1):Nat):Int),.int .i64 0,.int .u16 (((setR n e31):Nat):Int)]) (i:=0) hs57 (v:=.agg #[.int .u64 (((r + 1):Nat):Int),.int .i64 0,.int .u16 (((setR n e31):Nat):Int)]) (.tmp rfl rfl) (.tmp rfl rfl) rfl (Nat.le_of_ble_eq_true rfl) (oneA rfl) rfl) ?_
 rintro w58 hs60
 refine t_new (S':=fun u => St H12 u (obj g54 47 [.int .u64 (((r + 1):Nat):Int),.int .i64 0,.int .u16 (((setR n e31):Nat):Int)]::row 41 1 lv es.length lc::L)) rfl (St.erDrop [obj g54 47 [.int .u64 (((r + 1):Nat):Int),.int .i64 0,.int .u16 (((setR n e31):Nat):Int)],row 41 1 lv es.length lc] hs60) ?_
 refine t_nil ?_
 refine n_then (c_seq (c_region (st (v:=.slice none 0 0) (x_assign .const) ?_)))
 refine c_nil (n_then (c_seq (c_seq (c_region (st (v:=.int .i64 0) (x_assign .const) ?_)))))
 refine c_nil (n_then (c_block (c_loop (fun ρ w mm => ∃ (ia:Nat) (ea:List ER) (ca:List Value),ρ 0 = .int .i64 ((n:Nat):Int)∧ρ 1 = .slice A_runs n_runs c_runs∧ρ 5 = lv∧ρ 6 = .int .i64 ((r:Nat):Int)∧ρ 7 = .pointer (some ⟨g54,0,none⟩)∧ρ 8 = .slice none 0 0∧ρ 9 = .int .i64 ((ia:Nat):Int)∧(RowOk kER.sz lv ea.length ca)∧(kER.toKn.rows H12 ea ca)∧(exs ea = upto n (ph0 n runs r) (ph1 n runs r e31) ia)∧(ea.length = n)∧(ia ≤ n)∧St H12 w (row 41 1 lv ea.length ca::obj g54 47 [.int .u64 (((r + 1):Nat):Int),.int .i64 0,.int .u16 (((setR n e31):Nat):Int)]::ersR 49 ea ++ (L))∧mm = n - ia) _ ⟨0,es,lc,hρ21,hρ22,hρ23,hρ24,rfl,rfl,rfl,okes,hkes,(er_begin hTs),(by omega),(by omega),(hs60.p1),rfl⟩ ?_)))
 rintro ρ w mm ⟨ia,ea,ca,hρ62,hρ63,hρ64,hρ65,hρ66,hρ67,hρ68,okea,hkea,hTa,helea,hia,hs69,rfl⟩
 refine c_seq (c_seq (c_region (st (v:=.int .i64 ((ia:Nat):Int)) (x_move (.tmp rfl hρ68)) ?_)))
 refine st (v:=.int .i64 ((n:Nat):Int)) (x_move (.tmp rfl hρ62)) ?_
 refine st (v:=.bool (decide ((((ia:Nat):Int):Int) < ((n:Nat):Int)))) (x_lss (k:=.i64) (a:=((ia:Nat):Int)) (b:=((n:Nat):Int)) (.tmp rfl rfl) (.tmp rfl rfl)) ?_
 refine c_nil (n_then ?_)
 rcases Bool.eq_false_or_eq_true (decide ((((ia:Nat):Int):Int) < ((n:Nat):Int))) with hc70 | hc70
 have hp70:(((ia:Nat):Int):Int) < ((n:Nat):Int):=of_decide_eq_true hc70
 refine c_cond_t (t:=true) (.tmp rfl (cVb hc70)) rfl ?_
 refine c_skip (n_then (c_seq (c_block (c_seq (c_region (st (v:=.pointer (some ⟨g54,0 + 2,none⟩)) (fa47_1 (.tmp rfl hρ66)) ?_))))))
 refine st (v:=.int .u16 (((setR n e31):Nat):Int)) (ld45 (.tmp rfl rfl) (hs69.cell 1 rfl (0 + 2) rfl)) ?_
 refine st (v:=.int .i64 ((ia:Nat):Int)) (x_move (.tmp rfl hρ68)) ?_
 have hb71:((setR n e31) / 2 ^ ia) < 65536:=Nat.lt_of_le_of_lt (Nat.div_le_self _ _) hS_e31
 refine st (v:=.int .u16 ((((setR n e31) / 2 ^ ia):Nat):Int)) (x_shr (k:=.u16) (m:=(setR n e31)) (b:=((ia:Nat):Int)) rfl (.tmp rfl rfl) (.tmp rfl rfl) (by omega) (show _ < 2 ^ 16 from hS_e31)) ?_
 have hb72:(((setR n e31) / 2 ^ ia) &&& 1) < 65536:=Nat.lt_of_le_of_lt Nat.and_le_left hb71
 refine st (v:=.int .u16 (((((setR n e31) / 2 ^ ia) &&& 1):Nat):Int)) (x_and (k:=.u16) (m:=((setR n e31) / 2 ^ ia)) (n:=1) rfl (.tmp rfl rfl) .const (show _ < 2 ^ 16 from hb71) (show _ < 2 ^ 16 from (by decide))) ?_
 refine st (v:=.bool (decide (((((((setR n e31) / 2 ^ ia) &&& 1):Nat):Int):Int) = 1))) (x_eql (k:=.u16) (a:=(((((setR n e31) / 2 ^ ia) &&& 1):Nat):Int)) (b:=1) (.tmp rfl rfl) .const) ?_
 refine c_nil (n_then ?_)
 rcases Bool.eq_false_or_eq_true (decide (((((((setR n e31) / 2 ^ ia) &&& 1):Nat):Int):Int) = 1)) with hc73 | hc73
 have hp73:((((((setR n e31) / 2 ^ ia) &&& 1):Nat):Int):Int) = 1:=of_decide_eq_true hc73
 refine c_cond_t (t:=true) (.tmp rfl (cVb hc73)) rfl ?_
 refine u_region (L:=row 41 1 lv ea.length ca::obj g54 47 [.int .u64 (((r + 1):Nat):Int),.int .i64 0,.int .u16 (((setR n e31):Nat):Int)]::ersR 49 ea ++ (L)) (L':=row 41 1 lv ea.length ca::obj g54 47 [.int .u64 (((r + 1):Nat):Int),.int .i64 0,.int .u16 (((setR n e31):Nat):Int)]::L) (Z:=[9,11]) (F:=[0,1]) (Lw:=obj g54 47 [.int .u64 (((r + 1):Nat):Int),.int .i64 0,.int .u16 (((setR n e31):Nat):Int)]::L) (pl:=(.q 0 (.q 1 (.q 2 (.q 3 (.q 4 (.q 5 (.q 6 (.q 7 (.e 8 (.e 9 (.q 10 (.e 11 .done))))))))))))) mixed hs69 (fun u hu => (St.erDrop [row 41 1 lv ea.length ca,obj g54 47 [.int .u64 (((r + 1):Nat):Int),.int .i64 0,.int .u16 (((setR n e31):Nat):Int)]] hu)) (fun u hu => hu.drop) (by kernel_rfl) ?_
 intro w74 hs75
 refine u_fr (k:=0) (v:=lv) rfl rfl (fun w hs => (x_move (.tmp rfl hρ64))) ?_
 refine u_fr (k:=1) (v:=.int .i64 ((ia:Nat):Int)) rfl rfl (fun w hs => (x_move (.tmp rfl hρ68))) ?_
 refine u_st (k:=2) (v:=lv) rfl rfl (fun w hs => (x_move (.tmp rfl hρ64))) ?_
 refine u_st (k:=3) (v:=.int .i64 ((ia:Nat):Int)) rfl rfl (fun w hs => (x_move (.tmp rfl hρ68))) ?_
 obtain ⟨g76,c77,hv78⟩:=okea.pos (by omega)
 obtain ⟨e79,cs80,hx81,hr82,hsub83⟩:=Kn.rows_get (i:=ia) hkea (by omega)
 obtain ⟨rfl,ok84,hk85⟩:=hr82
 have hx_e79:=(exs_at hTa hx81).2
 have hl_e79:e79.xs.length ≤ 400:=by rw [hx_e79]; exact Nat.le_trans (ph0_len (by omega)) (by omega)
 refine u_st (k:=4) (v:=.pointer (some ⟨g76,(ia * 1),none⟩)) rfl rfl (fun w hs => (ixo36 (.tmp rfl hv78) rfl (i:=((ia:Nat):Int)) (.tmp rfl rfl) (by omega) (by omega) (by omega))) ?_
 refine u_st (k:=5) (v:=e79.v) rfl rfl (fun w hs => (ld41 (.tmp rfl rfl) ((hs.rowAt 0 rfl hv78 (ia * 1) hsub83).cell 0 rfl))) ?_
 refine u_st (k:=6) (v:=.agg #[.int .u64 (((r + 1):Nat):Int),.int .i64 0,.int .u16 (((setR n e31):Nat):Int)]) rfl rfl (fun w hs => (ld47 (cs:=[.int .u64 (((r + 1):Nat):Int),.int .i64 0,.int .u16 (((setR n e31):Nat):Int)]) (.tmp rfl hρ66) (hs.at_ 1 rfl (0) rfl) rfl)) ?_
 refine u_st (k:=7) (v:=.agg #[.int .u8 1,.int .u64 (((r + 1):Nat):Int),.int .i64 0,.int .u16 (((setR n e31):Nat):Int),.int .i64 0,.slice none 0 0]) rfl rfl (fun w hs => (bl49 (ps:=[(0,.int .u8 1),(1,.agg #[.int .u64 (((r + 1):Nat):Int),.int .i64 0,.int .u16 (((setR n e31):Nat):Int)])]) (.cons .const (.cons (.tmp rfl rfl) Evp.nil)) rfl)) ?_
 refine u_eff (k:=8) rfl ?_
 refine st_m (m_lit (n:=1) (ps:=[(0,.agg #[.int .u8 1,.int .u64 (((r + 1):Nat):Int),.int .i64 0,.int .u16 (((setR n e31):Nat):Int),.int .i64 0,.slice none 0 0])]) (cs:=[.int .u8 1,.int .u64 (((r + 1):Nat):Int),.int .i64 0,.int .u16 (((setR n e31):Nat):Int),.int .i64 0,.slice none 0 0]) Tryd.underlying41 inf49 (.cons (.tmp rfl rfl) Evp.nil) (by decide) (by decide) rfl rfl hs75) ?_
 rintro _ w87 ⟨g86,rfl,hs89⟩
 refine u_on (S':=fun u => St H12 u (obj g86 49 [.int .u8 1,.int .u64 (((r + 1):Nat):Int),.int .i64 0,.int .u16 (((setR n e31):Nat):Int),.int .i64 0,.slice none 0 0]::row 41 1 lv ea.length ca::obj g54 47 [.int .u64 (((r + 1):Nat):Int),.int .i64 0,.int .u16 (((setR n e31):Nat):Int)]::L)) (fun u hu => hu.drop) (fun u hu => hu.drop.drop) (St.erDrop [obj g86 49 [.int .u8 1,.int .u64 (((r + 1):Nat):Int),.int .i64 0,.int .u16 (((setR n e31):Nat):Int),.int .i64 0,.slice none 0 0],row 41 1 lv ea.length ca,obj g54 47 [.int .u64 (((r + 1):Nat):Int),.int .i64 0,.int .u16 (((setR n e31):Nat):Int)]] hs89) ?_
 refine u_eff (k:=9) rfl ?_
 have hs90:St H12 _ (row 49 6 e79.v e79.xs.length e79.c::obj g86 49 [.int .u8 1,.int .u64 (((r + 1):Nat):Int),.int .i64 0,.int .u16 (((setR n e31):Nat):Int),.int .i64 0,.slice none 0 0]::row 41 1 lv ea.length ca::obj g54 47 [.int .u64 (((r + 1):Nat):Int),.int .i64 0,.int .u16 (((setR n e31):Nat):Int)]::ersR 49 (ea.eraseIdx ia) ++ (L)):=St.erOut (TE:=49) [obj g86 49 [.int .u8 1,.int .u64 (((r + 1):Nat):Int),.int .i64 0,.int .u16 (((setR n e31):Nat):Int),.int .i64 0,.slice none 0 0],row 41 1 lv ea.length ca,obj g54 47 [.int .u64 (((r + 1):Nat):Int),.int .i64 0,.int .u16 (((setR n e31):Nat):Int)]] hs89 hx81
 have hr98:kEvent.rep H12 (GEvent.mk 1 (GView.mk (GViewID.mk (r + 1) 0) (setR n e31)) 0 []) [.int .u8 1,.int .u64 (((r + 1):Nat):Int),.int .i64 0,.int .u16 (((setR n e31):Nat):Int),.int .i64 0,.slice none 0 0]:=⟨none,0,0,rfl,(show 1 < 256 from by omega),hb30,(show IB 0 from ⟨by omega,by omega⟩),hS_e31,(show IB 0 from ⟨by omega,by omega⟩),(By.nil _ none)⟩
 refine st_m (m_appK (d:=kEvent) (ys:=[(GEvent.mk 1 (GView.mk (GViewID.mk (r + 1) 0) (setR n e31)) 0 [])]) (news:=[.int .u8 1,.int .u64 (((r + 1):Nat):Int),.int .i64 0,.int .u16 (((setR n e31):Nat):Int),.int .i64 0,.slice none 0 0]) Tryd.underlying41 inf49 rfl hs90 ok84 hk85 (.tmp rfl rfl) (.tmp rfl rfl) (Kn.rows_one hr98) rfl (hs90.at_ 1 rfl 0 rfl) (by have:([(GEvent.mk 1 (GView.mk (GViewID.mk (r + 1) 0) (setR n e31)) 0 [])]:List GEvent).length = 1:=rfl; omega) (by decide)) ?_
 rintro v91 w92 ⟨cs93,ok94,hk95,hs96⟩
 have hn97:(e79.xs ++ [(GEvent.mk 1 (GView.mk (GViewID.mk (r + 1) 0) (setR n e31)) 0 [])]).length = e79.xs.length + 1:=by simp
 refine u_new (S':=fun u => St H12 u (row 49 6 v91 ((e79.xs ++ [(GEvent.mk 1 (GView.mk (GViewID.mk (r + 1) 0) (setR n e31)) 0 [])]).length) cs93::obj g86 49 [.int .u8 1,.int .u64 (((r + 1):Nat):Int),.int .i64 0,.int .u16 (((setR n e31):Nat):Int),.int .i64 0,.slice none 0 0]::row 41 1 lv ea.length ca::obj g54 47 [.int .u64 (((r + 1):Nat):Int),.int .i64 0,.int .u16 (((setR n e31):Nat):Int)]::L)) rfl (fun u hu => hu.drop.drop.drop) (St.erDrop [row 49 6 v91 ((e79.xs ++ [(GEvent.mk 1 (GView.mk (GViewID.mk (r + 1) 0) (setR n e31)) 0 [])]).length) cs93,obj g86 49 [.int .u8 1,.int .u64 (((r + 1):Nat):Int),.int .i64 0,.int .u16 (((setR n e31):Nat):Int),.int .i64 0,.slice none 0 0],row 41 1 lv ea.length ca,obj g54 47 [.int .u64 (((r + 1):Nat):Int),.int .i64 0,.int .u16 (((setR n e31):Nat):Int)]] hs96) ?_
 obtain ⟨g99,c100,hv101⟩:=okea.pos (by omega)
 refine u_st (k:=10) (v:=.pointer (some ⟨g99,(ia * 1),none⟩)) rfl rfl (fun w hs => (ixo36 (.tmp rfl hv101) rfl (i:=((ia:Nat):Int)) (.tmp rfl rfl) (by omega) (by omega) (by omega))) ?_
 refine u_eff (k:=11) rfl ?_
 obtain ⟨A102,c103,rfl,hc104⟩:=ok94.slice
 have hs105:St H12 _ (row 41 1 lv ea.length ca::row 49 6 (.slice A102 ((e79.xs ++ [(GEvent.mk 1 (GView.mk (GViewID.mk (r + 1) 0) (setR n e31)) 0 [])]).length) c103) ((e79.xs ++ [(GEvent.mk 1 (GView.mk (GViewID.mk (r + 1) 0) (setR n e31)) 0 [])]).length) cs93::obj g86 49 [.int .u8 1,.int .u64 (((r + 1):Nat):Int),.int .i64 0,.int .u16 (((setR n e31):Nat):Int),.int .i64 0,.slice none 0 0]::obj g54 47 [.int .u64 (((r + 1):Nat):Int),.int .i64 0,.int .u16 (((setR n e31):Nat):Int)]::ersR 49 (ea.eraseIdx ia) ++ (L)):=hs96.p2
 have hl111:ia + 1 ≤ ca.length:=by have h1:=(hkea).1; have h2:kER.sz = 1:=rfl; rw [h2] at h1; omega
 have hr110:kER.rep H12 (ER.mk (.slice A102 ((e79.xs ++ [(GEvent.mk 1 (GView.mk (GViewID.mk (r + 1) 0) (setR n e31)) 0 [])]).length) c103) cs93 (e79.xs ++ [(GEvent.mk 1 (GView.mk (GViewID.mk (r + 1) 0) (setR n e31)) 0 [])])) [(.slice A102 ((e79.xs ++ [(GEvent.mk 1 (GView.mk (GViewID.mk (r + 1) 0) (setR n e31)) 0 [])]).length) c103)]:=⟨rfl,ok94,hk95⟩
 refine st_m0 (stor41 hs105 hv101 (i:=(ia * 1)) (xs':=splice ca (ia * 1) [(.slice A102 ((e79.xs ++ [(GEvent.mk 1 (GView.mk (GViewID.mk (r + 1) 0) (setR n e31)) 0 [])]).length) c103)]) (.tmp rfl rfl) (u:=.slice A102 ((e79.xs ++ [(GEvent.mk 1 (GView.mk (GViewID.mk (r + 1) 0) (setR n e31)) 0 [])]).length) c103) (.tmp rfl rfl) rfl (by omega) one1 rfl) ?_
 rintro w106 hs107
 have hk109:=Kn.rows_set (d:=kER.toKn) hkea (i:=ia) (by omega) hr110
 have ok108:=okea.splice (i:=ia * 1) (vs:=[(.slice A102 ((e79.xs ++ [(GEvent.mk 1 (GView.mk (GViewID.mk (r + 1) 0) (setR n e31)) 0 [])]).length) c103)]) (by show ia * 1 + 1 ≤ _; omega)
 have hn112:(ea.set ia (ER.mk (.slice A102 ((e79.xs ++ [(GEvent.mk 1 (GView.mk (GViewID.mk (r + 1) 0) (setR n e31)) 0 [])]).length) c103) cs93 (e79.xs ++ [(GEvent.mk 1 (GView.mk (GViewID.mk (r + 1) 0) (setR n e31)) 0 [])]))).length = ea.length:=List.length_set
 have ok113:RowOk kER.sz lv (ea.set ia (ER.mk (.slice A102 ((e79.xs ++ [(GEvent.mk 1 (GView.mk (GViewID.mk (r + 1) 0) (setR n e31)) 0 [])]).length) c103) cs93 (e79.xs ++ [(GEvent.mk 1 (GView.mk (GViewID.mk (r + 1) 0) (setR n e31)) 0 [])]))).length (splice ca (ia * 1) [(.slice A102 ((e79.xs ++ [(GEvent.mk 1 (GView.mk (GViewID.mk (r + 1) 0) (setR n e31)) 0 [])]).length) c103)]):=by rw [hn112]; exact ok108
 have hs114:St H12 w106 (row 41 1 lv ((ea.set ia (ER.mk (.slice A102 ((e79.xs ++ [(GEvent.mk 1 (GView.mk (GViewID.mk (r + 1) 0) (setR n e31)) 0 [])]).length) c103) cs93 (e79.xs ++ [(GEvent.mk 1 (GView.mk (GViewID.mk (r + 1) 0) (setR n e31)) 0 [])]))).length) (splice ca (ia * 1) [(.slice A102 ((e79.xs ++ [(GEvent.mk 1 (GView.mk (GViewID.mk (r + 1) 0) (setR n e31)) 0 [])]).length) c103)])::row 49 6 (.slice A102 ((e79.xs ++ [(GEvent.mk 1 (GView.mk (GViewID.mk (r + 1) 0) (setR n e31)) 0 [])]).length) c103) ((e79.xs ++ [(GEvent.mk 1 (GView.mk (GViewID.mk (r + 1) 0) (setR n e31)) 0 [])]).length) cs93::obj g86 49 [.int .u8 1,.int .u64 (((r + 1):Nat):Int),.int .i64 0,.int .u16 (((setR n e31):Nat):Int),.int .i64 0,.slice none 0 0]::obj g54 47 [.int .u64 (((r + 1):Nat):Int),.int .i64 0,.int .u16 (((setR n e31):Nat):Int)]::ersR 49 (ea.eraseIdx ia) ++ (L)):=by rw [hn112]; exact hs107
 have hs115:St H12 _ (row 49 6 (.slice A102 ((e79.xs ++ [(GEvent.mk 1 (GView.mk (GViewID.mk (r + 1) 0) (setR n e31)) 0 [])]).length) c103) ((e79.xs ++ [(GEvent.mk 1 (GView.mk (GViewID.mk (r + 1) 0) (setR n e31)) 0 [])]).length) cs93::row 41 1 lv ((ea.set ia (ER.mk (.slice A102 ((e79.xs ++ [(GEvent.mk 1 (GView.mk (GViewID.mk (r + 1) 0) (setR n e31)) 0 [])]).length) c103) cs93 (e79.xs ++ [(GEvent.mk 1 (GView.mk (GViewID.mk (r + 1) 0) (setR n e31)) 0 [])]))).length) (splice ca (ia * 1) [(.slice A102 ((e79.xs ++ [(GEvent.mk 1 (GView.mk (GViewID.mk (r + 1) 0) (setR n e31)) 0 [])]).length) c103)])::obj g86 49 [.int .u8 1,.int .u64 (((r + 1):Nat):Int),.int .i64 0,.int .u16 (((setR n e31):Nat):Int),.int .i64 0,.slice none 0 0]::obj g54 47 [.int .u64 (((r + 1):Nat):Int),.int .i64 0,.int .u16 (((setR n e31):Nat):Int)]::ersR 49 (ea.eraseIdx ia) ++ (L)):=hs114.p1
 have hs116:St H12 _ (row 41 1 lv ((ea.set ia (ER.mk (.slice A102 ((e79.xs ++ [(GEvent.mk 1 (GView.mk (GViewID.mk (r + 1) 0) (setR n e31)) 0 [])]).length) c103) cs93 (e79.xs ++ [(GEvent.mk 1 (GView.mk (GViewID.mk (r + 1) 0) (setR n e31)) 0 [])]))).length) (splice ca (ia * 1) [(.slice A102 ((e79.xs ++ [(GEvent.mk 1 (GView.mk (GViewID.mk (r + 1) 0) (setR n e31)) 0 [])]).length) c103)])::obj g86 49 [.int .u8 1,.int .u64 (((r + 1):Nat):Int),.int .i64 0,.int .u16 (((setR n e31):Nat):Int),.int .i64 0,.slice none 0 0]::obj g54 47 [.int .u64 (((r + 1):Nat):Int),.int .i64 0,.int .u16 (((setR n e31):Nat):Int)]::ersR 49 (ea.set ia (ER.mk (.slice A102 ((e79.xs ++ [(GEvent.mk 1 (GView.mk (GViewID.mk (r + 1) 0) (setR n e31)) 0 [])]).length) c103) cs93 (e79.xs ++ [(GEvent.mk 1 (GView.mk (GViewID.mk (r + 1) 0) (setR n e31)) 0 [])]))) ++ (L)):=St.erIn (TE:=49) (q:=(ER.mk (.slice A102 ((e79.xs ++ [(GEvent.mk 1 (GView.mk (GViewID.mk (r + 1) 0) (setR n e31)) 0 [])]).length) c103) cs93 (e79.xs ++ [(GEvent.mk 1 (GView.mk (GViewID.mk (r + 1) 0) (setR n e31)) 0 [])]))) [row 41 1 lv ((ea.set ia (ER.mk (.slice A102 ((e79.xs ++ [(GEvent.mk 1 (GView.mk (GViewID.mk (r + 1) 0) (setR n e31)) 0 [])]).length) c103) cs93 (e79.xs ++ [(GEvent.mk 1 (GView.mk (GViewID.mk (r + 1) 0) (setR n e31)) 0 [])]))).length) (splice ca (ia * 1) [(.slice A102 ((e79.xs ++ [(GEvent.mk 1 (GView.mk (GViewID.mk (r + 1) 0) (setR n e31)) 0 [])]).length) c103)]),obj g86 49 [.int .u8 1,.int .u64 (((r + 1):Nat):Int),.int .i64 0,.int .u16 (((setR n e31):Nat):Int),.int .i64 0,.slice none 0 0],obj g54 47 [.int .u64 (((r + 1):Nat):Int),.int .i64 0,.int .u16 (((setR n e31):Nat):Int)]] hs115 hx81
 refine u_new (S':=fun u => St H12 u (row 41 1 lv ((ea.set ia (ER.mk (.slice A102 ((e79.xs ++ [(GEvent.mk 1 (GView.mk (GViewID.mk (r + 1) 0) (setR n e31)) 0 [])]).length) c103) cs93 (e79.xs ++ [(GEvent.mk 1 (GView.mk (GViewID.mk (r + 1) 0) (setR n e31)) 0 [])]))).length) (splice ca (ia * 1) [(.slice A102 ((e79.xs ++ [(GEvent.mk 1 (GView.mk (GViewID.mk (r + 1) 0) (setR n e31)) 0 [])]).length) c103)])::obj g86 49 [.int .u8 1,.int .u64 (((r + 1):Nat):Int),.int .i64 0,.int .u16 (((setR n e31):Nat):Int),.int .i64 0,.slice none 0 0]::obj g54 47 [.int .u64 (((r + 1):Nat):Int),.int .i64 0,.int .u16 (((setR n e31):Nat):Int)]::L)) rfl (fun u hu => hu.drop.drop) (St.erDrop [row 41 1 lv ((ea.set ia (ER.mk (.slice A102 ((e79.xs ++ [(GEvent.mk 1 (GView.mk (GViewID.mk (r + 1) 0) (setR n e31)) 0 [])]).length) c103) cs93 (e79.xs ++ [(GEvent.mk 1 (GView.mk (GViewID.mk (r + 1) 0) (setR n e31)) 0 [])]))).length) (splice ca (ia * 1) [(.slice A102 ((e79.xs ++ [(GEvent.mk 1 (GView.mk (GViewID.mk (r + 1) 0) (setR n e31)) 0 [])]).length) c103)]),obj g86 49 [.int .u8 1,.int .u64 (((r + 1):Nat):Int),.int .i64 0,.int .u16 (((setR n e31):Nat):Int),.int .i64 0,.slice none 0 0],obj g54 47 [.int .u64 (((r + 1):Nat):Int),.int .i64 0,.int .u16 (((setR n e31):Nat):Int)]] hs116) ?_
 refine u_nil ?_
 refine n_block (n_then (c_region (st (v:=.int .i64 ((ia:Nat):Int)) (x_move (.tmp rfl hρ68)) ?_)))
 refine st (v:=.int .i64 (((ia + 1):Nat):Int)) (x_add (k:=.i64) (a:=((ia:Nat):Int)) (b:=1) (.tmp rfl rfl) .const ((w64 (by omega) (by omega)).trans (by omega))) ?_
 refine st (v:=.int .i64 (((ia + 1):Nat):Int)) (x_assign (.tmp rfl rfl)) ?_
 refine c_nil ?_
 refine n_then ⟨_,_,rfl,?_,(ia + 1),(ea.set ia (ER.mk (.slice A102 ((e79.xs ++ [(GEvent.mk 1 (GView.mk (GViewID.mk (r + 1) 0) (setR n e31)) 0 [])]).length) c103) cs93 (e79.xs ++ [(GEvent.mk 1 (GView.mk (GViewID.mk (r + 1) 0) (setR n e31)) 0 [])]))),(splice ca (ia * 1) [(.slice A102 ((e79.xs ++ [(GEvent.mk 1 (GView.mk (GViewID.mk (r + 1) 0) (setR n e31)) 0 [])]).length) c103)]),hρ62,hρ63,hρ64,hρ65,hρ66,hρ67,rfl,ok113,hk109,(er_app hTa hx81 (ph1_yes ((has_nat (by omega)).symm.trans hc73))),(g_set_len helea),(by omega),(((hs116.p1).drop.p1).p1),rfl⟩
 omega
 have hp73:¬ (((((((setR n e31) / 2 ^ ia) &&& 1):Nat):Int):Int) = 1):=of_decide_eq_false hc73
 refine c_cond_f (t:=false) (.tmp rfl (cVb hc73)) rfl ?_
 refine c_skip (n_block (n_then (c_region (st (v:=.int .i64 ((ia:Nat):Int)) (x_move (.tmp rfl hρ68)) ?_))))
 refine st (v:=.int .i64 (((ia + 1):Nat):Int)) (x_add (k:=.i64) (a:=((ia:Nat):Int)) (b:=1) (.tmp rfl rfl) .const ((w64 (by omega) (by omega)).trans (by omega))) ?_
 refine st (v:=.int .i64 (((ia + 1):Nat):Int)) (x_assign (.tmp rfl rfl)) ?_
 refine c_nil ?_
 refine n_then ⟨_,_,rfl,?_,(ia + 1),ea,ca,hρ62,hρ63,hρ64,hρ65,hρ66,hρ67,rfl,okea,hkea,(er_same hTa (ph1_no ((has_nat (by omega)).symm.trans hc73))),(by omega),(by omega),((hs69.p1).p1),rfl⟩
 omega
 have hp70:¬ ((((ia:Nat):Int):Int) < ((n:Nat):Int)):=of_decide_eq_false hc70
 refine c_cond_f (t:=false) (.tmp rfl (cVb hc70)) rfl ?_
 refine c_exit (x_then (x_then (x_here (n_then (c_seq (c_seq (c_region ?_)))))))
 have hTa9:exs ea = (List.range n).map (ph2 n runs r e31 (e31.Sends.take 0)):=er_next hTa (by omega) (fun j _ => ph2_zero)
 skip
 refine st (v:=.int .i64 0) (x_assign .const) ?_
 refine c_nil (n_then (c_block ?_))
 have hs118:St H12 _ (row 49 6 (.slice none 0 0) (([]:List GEvent).length) []::row 41 1 lv ea.length ca::obj g54 47 [.int .u64 (((r + 1):Nat):Int),.int .i64 0,.int .u16 (((setR n e31):Nat):Int)]::ersR 49 ea ++ (L)):=hs69.krowNil 49 kEvent
 have:([]:List GEvent).length = 0:=rfl
 refine c_loop (fun ρ w mm => ∃ (ib:Nat) (al:List GEvent) (v_al:Value) (c_al:List Value) (eb:List ER) (cb:List Value),ρ 0 = .int .i64 ((n:Nat):Int)∧ρ 1 = .slice A_runs n_runs c_runs∧ρ 5 = lv∧ρ 6 = .int .i64 ((r:Nat):Int)∧ρ 7 = .pointer (some ⟨g54,0,none⟩)∧ρ 8 = v_al∧ρ 10 = .int .i64 ((ib:Nat):Int)∧(RowOk kEvent.sz v_al al.length c_al)∧(kEvent.toKn.rows H12 al c_al)∧(RowOk kER.sz lv eb.length cb)∧(kER.toKn.rows H12 eb cb)∧(exs eb = (List.range n).map (ph2 n runs r e31 (e31.Sends.take ib)))∧(eb.length = n)∧(ib ≤ e31.Sends.length∧ib ≤ 10)∧(al = (sendA n (setR n e31) (e31.Sends.take ib)).map (evRecv (viewR n r e31)))∧(al.length ≤ ib)∧St H12 w (row 49 6 v_al al.length c_al::row 41 1 lv eb.length cb::obj g54 47 [.int .u64 (((r + 1):Nat):Int),.int .i64 0,.int .u16 (((setR n e31):Nat):Int)]::ersR 49 eb ++ (L))∧mm = 10 - ib) _ ⟨0,([]:List GEvent),(.slice none 0 0),[],ea,ca,hρ62,hρ63,hρ64,hρ65,hρ66,hρ67,rfl,(RowOk.knil kEvent),(Kn.rows_nil _ _),okea,hkea,hTa9,(by omega),(by omega),rfl,(Nat.le_refl _),(((hs118.p2).p2).p2),rfl⟩ ?_
 rintro ρ w mm ⟨ib,al,v_al,c_al,eb,cb,hρ120,hρ121,hρ122,hρ123,hρ124,hρ125,hρ126,ok_al,hk_al,okeb,hkeb,hTb,heleb,hib,hal,hall,hs127,rfl⟩
 refine c_seq (c_seq (c_region (st (v:=.int .i64 ((ib:Nat):Int)) (x_move (.tmp rfl hρ126)) ?_)))
 refine st (v:=.slice A_runs n_runs c_runs) (x_move (.tmp rfl hρ121)) ?_
 refine st (v:=.int .i64 ((r:Nat):Int)) (x_move (.tmp rfl hρ123)) ?_
 refine st (v:=.pointer (some ⟨b32,(o33 + r * 4),none⟩)) (ixo38 (.tmp rfl rfl) hA36 (i:=((r:Nat):Int)) (.tmp rfl rfl) (by omega) (by omega) (by omega)) ?_
 refine st (v:=.pointer (some ⟨b32,(o33 + r * 4) + 1,none⟩)) (fa67_1 (.tmp rfl rfl)) ?_
 refine st (v:=.slice A40 n41 c42) (ld65 (.tmp rfl rfl) ((hat38x hs127).cell 1 rfl)) ?_
 refine st (v:=.int .i64 ((n41:Nat):Int)) (x_len (n:=n41) Tryd.underlying65 (.tmp rfl rfl)) ?_
 refine st (v:=.bool (decide ((((ib:Nat):Int):Int) < ((n41:Nat):Int)))) (x_lss (k:=.i64) (a:=((ib:Nat):Int)) (b:=((n41:Nat):Int)) (.tmp rfl rfl) (.tmp rfl rfl)) ?_
 refine st (v:=.bool (decide ((((ib:Nat):Int):Int) < ((n41:Nat):Int)))) (x_move (.tmp rfl rfl)) ?_
 refine jw 3 (fun ρ w => ρ 81 = .bool ((decide ((((ib:Nat):Int):Int) < ((n41:Nat):Int))) && (decide ((((ib:Nat):Int):Int) < 10)))∧ρ 0 = .int .i64 ((n:Nat):Int)∧ρ 1 = .slice A_runs n_runs c_runs∧ρ 5 = lv∧ρ 6 = .int .i64 ((r:Nat):Int)∧ρ 7 = .pointer (some ⟨g54,0,none⟩)∧ρ 8 = v_al∧ρ 10 = .int .i64 ((ib:Nat):Int)∧St H12 w (row 49 6 v_al al.length c_al::row 41 1 lv eb.length cb::obj g54 47 [.int .u64 (((r + 1):Nat):Int),.int .i64 0,.int .u16 (((setR n e31):Nat):Int)]::ersR 49 eb ++ (L))) ?_ ?_
 rcases Bool.eq_false_or_eq_true (decide ((((ib:Nat):Int):Int) < ((n41:Nat):Int))) with hc128 | hc128
 have hp128:(((ib:Nat):Int):Int) < ((n41:Nat):Int):=of_decide_eq_true hc128
 refine g_yes (yk 78 true rfl rfl hc128) ?_
 refine st (v:=.int .i64 ((ib:Nat):Int)) (x_move (.tmp rfl hρ126)) ?_
 refine g_yes (yk 78 true rfl rfl hc128) ?_
 refine st (v:=.bool (decide ((((ib:Nat):Int):Int) < 10))) (x_lss (k:=.i64) (a:=((ib:Nat):Int)) (b:=10) (.tmp rfl rfl) .const) ?_
 refine st (v:=.bool (decide ((((ib:Nat):Int):Int) < 10))) (x_pick_t (.tmp rfl (cVb hc128)) (.tmp rfl rfl)) ?_
 exact jw_end ⟨(cVb (jand_t hc128)),hρ120,hρ121,hρ122,hρ123,hρ124,hρ125,hρ126,hs127⟩
 have hp128:¬ ((((ib:Nat):Int):Int) < ((n41:Nat):Int)):=of_decide_eq_false hc128
 refine g_no (yk 78 false rfl rfl hc128) rfl ?_
 refine g_no (yk 78 false rfl rfl hc128) rfl ?_
 refine st (v:=.bool false) (x_pick_f (.tmp rfl (cVb hc128)) .const) ?_
 exact jw_end ⟨(cVb (jand_f hc128)),hρ120,hρ121,hρ122,hρ123,hρ124,hρ125,hρ126,hs127⟩
 rintro ρ w ⟨hρ129,hρ130,hρ131,hρ132,hρ133,hρ134,hρ135,hρ136,hs137⟩
 refine c_nil (n_then ?_)
 rcases Bool.eq_false_or_eq_true ((decide ((((ib:Nat):Int):Int) < ((n41:Nat):Int))) && (decide ((((ib:Nat):Int):Int) < 10))) with hc138 | hc138
 have hp138:((((ib:Nat):Int):Int) < ((n41:Nat):Int))∧((((ib:Nat):Int):Int) < 10):=((J_and decide_eq_true_iff decide_eq_true_iff)).1 hc138
 refine c_cond_t (t:=true) (.tmp rfl (hρ129.trans (cVb hc138))) rfl ?_
 refine c_skip (n_then (c_seq (c_block (c_seq (c_region (st (v:=.slice A_runs n_runs c_runs) (x_move (.tmp rfl hρ131)) ?_))))))
 refine st (v:=.int .i64 ((r:Nat):Int)) (x_move (.tmp rfl hρ133)) ?_
 refine st (v:=.pointer (some ⟨b32,(o33 + r * 4),none⟩)) (ixo38 (.tmp rfl rfl) hA36 (i:=((r:Nat):Int)) (.tmp rfl rfl) (by omega) (by omega) (by omega)) ?_
 refine st (v:=.pointer (some ⟨b32,(o33 + r * 4) + 1,none⟩)) (fa67_1 (.tmp rfl rfl)) ?_
 refine st (v:=.slice A40 n41 c42) (ld65 (.tmp rfl rfl) ((hat38x hs137).cell 1 rfl)) ?_
 refine st (v:=.int .i64 ((ib:Nat):Int)) (x_move (.tmp rfl hρ136)) ?_
 obtain ⟨e139,b140,o141,cs142,hx143,hA144,hr145,hat146⟩:=hl43.get (i:=ib) (by omega)
 obtain ⟨A148,n149,c150,rfl,b147,hy151⟩:=hr145
 have:=hy151.len; have:=hy151.bnd; have:=hy151.le
 have hat146x:∀ {w:World} {L:List Res},St H12 w L → At w ⟨b140,o141 + ib * 2,none⟩ [.int .u8 ((e139.I:Nat):Int),.slice A148 n149 c150]:=fun h => hat146 h
 refine st (v:=.pointer (some ⟨b140,(o141 + ib * 2),none⟩)) (ixo65 (.tmp rfl rfl) hA144 (i:=((ib:Nat):Int)) (.tmp rfl rfl) (by omega) (by omega) (by omega)) ?_
 refine st (v:=.agg #[.int .u8 ((e139.I:Nat):Int),.slice A148 n149 c150]) (ld69 (cs:=[.int .u8 ((e139.I:Nat):Int),.slice A148 n149 c150]) (.tmp rfl rfl) ((hat146x hs137).sub 0 rfl) rfl) ?_
 refine st_m (al69 (cs:=[.int .u8 0,.slice none 0 0]) hs137 rfl) ?_
 rintro _ w153 ⟨g152,rfl,hs155⟩
 refine st_m0 (sto69 (cs':=[.int .u8 ((e139.I:Nat):Int),.slice A148 n149 c150]) (i:=0) hs155 (v:=.agg #[.int .u8 ((e139.I:Nat):Int),.slice A148 n149 c150]) (.tmp rfl rfl) (.tmp rfl rfl) rfl (Nat.le_of_ble_eq_true rfl) (oneA rfl) rfl) ?_
 rintro w156 hs158
 refine c_nil (n_then (c_seq (c_region (st (v:=.pointer (some ⟨g152,0 + 0,none⟩)) (fa69_0 (.tmp rfl rfl)) ?_))))
 refine st (v:=.int .u8 ((e139.I:Nat):Int)) (ld5 (.tmp rfl rfl) (hs158.cell 0 rfl (0 + 0) rfl)) ?_
 refine st (v:=.int .i64 ((e139.I:Nat):Int)) (x_conv (k:=.u8) (a:=((e139.I:Nat):Int)) Tryd.underlying5 Tryd.underlying3 (.tmp rfl rfl) (w64 (by omega) (by omega))) ?_
 refine st (v:=.int .i64 ((n:Nat):Int)) (x_move (.tmp rfl hρ130)) ?_
 have:e139.I % n < n:=Nat.mod_lt _ (by omega)
 refine st (v:=.int .i64 (((e139.I % n):Nat):Int)) (x_remN (k:=.i64) (m:=e139.I) (n:=n) (.tmp rfl rfl) (.tmp rfl rfl) (by omega)) ?_
 refine st (v:=.int .i64 (((e139.I % n):Nat):Int)) (x_assign (.tmp rfl rfl)) ?_
 refine c_nil (n_then (c_seq (c_region (st (v:=.pointer (some ⟨g54,0 + 2,none⟩)) (fa47_1 (.tmp rfl hρ134)) ?_))))
 refine st (v:=.int .u16 (((setR n e31):Nat):Int)) (ld45 (.tmp rfl rfl) (hs158.cell 3 rfl (0 + 2) rfl)) ?_
 refine st (v:=.int .i64 (((e139.I % n):Nat):Int)) (x_move (.tmp rfl rfl)) ?_
 have hb159:((setR n e31) / 2 ^ (e139.I % n)) < 65536:=Nat.lt_of_le_of_lt (Nat.div_le_self _ _) hS_e31
 refine st (v:=.int .u16 ((((setR n e31) / 2 ^ (e139.I % n)):Nat):Int)) (x_shr (k:=.u16) (m:=(setR n e31)) (b:=(((e139.I % n):Nat):Int)) rfl (.tmp rfl rfl) (.tmp rfl rfl) (by omega) (show _ < 2 ^ 16 from hS_e31)) ?_
 have hb160:(((setR n e31) / 2 ^ (e139.I % n)) &&& 1) < 65536:=Nat.lt_of_le_of_lt Nat.and_le_left hb159
 refine st (v:=.int .u16 (((((setR n e31) / 2 ^ (e139.I % n)) &&& 1):Nat):Int)) (x_and (k:=.u16) (m:=((setR n e31) / 2 ^ (e139.I % n))) (n:=1) rfl (.tmp rfl rfl) .const (show _ < 2 ^ 16 from hb159) (show _ < 2 ^ 16 from (by decide))) ?_
 refine st (v:=.bool (decide (((((((setR n e31) / 2 ^ (e139.I % n)) &&& 1):Nat):Int):Int) = 1))) (x_eql (k:=.u16) (a:=(((((setR n e31) / 2 ^ (e139.I % n)) &&& 1):Nat):Int)) (b:=1) (.tmp rfl rfl) .const) ?_
 refine c_nil (n_then ?_)
 rcases Bool.eq_false_or_eq_true (decide (((((((setR n e31) / 2 ^ (e139.I % n)) &&& 1):Nat):Int):Int) = 1)) with hc161 | hc161
 have hp161:((((((setR n e31) / 2 ^ (e139.I % n)) &&& 1):Nat):Int):Int) = 1:=of_decide_eq_true hc161
 refine c_cond_t (t:=true) (.tmp rfl (cVb hc161)) rfl ?_
 refine c_seq (u_region (L:=obj g152 69 [.int .u8 ((e139.I:Nat):Int),.slice A148 n149 c150]::row 49 6 v_al al.length c_al::row 41 1 lv eb.length cb::obj g54 47 [.int .u64 (((r + 1):Nat):Int),.int .i64 0,.int .u16 (((setR n e31):Nat):Int)]::ersR 49 eb ++ (L)) (L':=obj g152 69 [.int .u8 ((e139.I:Nat):Int),.slice A148 n149 c150]::row 49 6 v_al al.length c_al::row 41 1 lv eb.length cb::obj g54 47 [.int .u64 (((r + 1):Nat):Int),.int .i64 0,.int .u16 (((setR n e31):Nat):Int)]::L) (Z:=[11,13]) (F:=[0,1]) (Lw:=obj g152 69 [.int .u8 ((e139.I:Nat):Int),.slice A148 n149 c150]::row 49 6 v_al al.length c_al::obj g54 47 [.int .u64 (((r + 1):Nat):Int),.int .i64 0,.int .u16 (((setR n e31):Nat):Int)]::L) (pl:=(.q 0 (.q 1 (.q 2 (.q 3 (.q 4 (.q 5 (.q 6 (.q 7 (.q 8 (.q 9 (.e 10 (.e 11 (.q 12 (.e 13 .done))))))))))))))) mixed hs158 (fun u hu => (St.erDrop [obj g152 69 [.int .u8 ((e139.I:Nat):Int),.slice A148 n149 c150],row 49 6 v_al al.length c_al,row 41 1 lv eb.length cb,obj g54 47 [.int .u64 (((r + 1):Nat):Int),.int .i64 0,.int .u16 (((setR n e31):Nat):Int)]] hu)) (fun u hu => (hu.p2).drop) (by kernel_rfl) ?_)
 intro w162 hs163
 refine u_fr (k:=0) (v:=lv) rfl rfl (fun w hs => (x_move (.tmp rfl hρ132))) ?_
 refine u_fr (k:=1) (v:=.int .i64 (((e139.I % n):Nat):Int)) rfl rfl (fun w hs => (x_move (.tmp rfl rfl))) ?_
 refine u_st (k:=2) (v:=lv) rfl rfl (fun w hs => (x_move (.tmp rfl hρ132))) ?_
 refine u_st (k:=3) (v:=.int .i64 (((e139.I % n):Nat):Int)) rfl rfl (fun w hs => (x_move (.tmp rfl rfl))) ?_
 obtain ⟨g164,c165,hv166⟩:=okeb.pos (by omega)
 obtain ⟨e167,cs168,hx169,hr170,hsub171⟩:=Kn.rows_get (i:=(e139.I % n)) hkeb (by omega)
 obtain ⟨rfl,ok172,hk173⟩:=hr170
 have hx_e167:=(exs_at' hTb hx169).2
 have hl_e167:e167.xs.length ≤ 400:=by rw [hx_e167]; exact Nat.le_trans (ph2_len (by omega)) (by rw [List.length_take]; omega)
 refine u_st (k:=4) (v:=.pointer (some ⟨g164,((e139.I % n) * 1),none⟩)) rfl rfl (fun w hs => (ixo36 (.tmp rfl hv166) rfl (i:=(((e139.I % n):Nat):Int)) (.tmp rfl rfl) (by omega) (by omega) (by omega))) ?_
 refine u_st (k:=5) (v:=e167.v) rfl rfl (fun w hs => (ld41 (.tmp rfl rfl) ((hs.rowAt 2 rfl hv166 ((e139.I % n) * 1) hsub171).cell 0 rfl))) ?_
 refine u_st (k:=6) (v:=.agg #[.int .u64 (((r + 1):Nat):Int),.int .i64 0,.int .u16 (((setR n e31):Nat):Int)]) rfl rfl (fun w hs => (ld47 (cs:=[.int .u64 (((r + 1):Nat):Int),.int .i64 0,.int .u16 (((setR n e31):Nat):Int)]) (.tmp rfl hρ134) (hs.at_ 3 rfl (0) rfl) rfl)) ?_
 refine u_st (k:=7) (v:=.pointer (some ⟨g152,0 + 1,none⟩)) rfl rfl (fun w hs => (fa69_1 (.tmp rfl rfl))) ?_
 refine u_st (k:=8) (v:=.slice A148 n149 c150) rfl rfl (fun w hs => (ld30 (.tmp rfl rfl) (hs.cell 0 rfl (0 + 1) rfl))) ?_
 refine u_st (k:=9) (v:=.agg #[.int .u8 2,.int .u64 (((r + 1):Nat):Int),.int .i64 0,.int .u16 (((setR n e31):Nat):Int),.int .i64 0,.slice A148 n149 c150]) rfl rfl (fun w hs => (bl49 (ps:=[(0,.int .u8 2),(1,.agg #[.int .u64 (((r + 1):Nat):Int),.int .i64 0,.int .u16 (((setR n e31):Nat):Int)]),(3,.slice A148 n149 c150)]) (.cons .const (.cons (.tmp rfl rfl) (.cons (.tmp rfl rfl) Evp.nil))) rfl)) ?_
 refine u_eff (k:=10) rfl ?_
 refine st_m (m_lit (n:=1) (ps:=[(0,.agg #[.int .u8 2,.int .u64 (((r + 1):Nat):Int),.int .i64 0,.int .u16 (((setR n e31):Nat):Int),.int .i64 0,.slice A148 n149 c150])]) (cs:=[.int .u8 2,.int .u64 (((r + 1):Nat):Int),.int .i64 0,.int .u16 (((setR n e31):Nat):Int),.int .i64 0,.slice A148 n149 c150]) Tryd.underlying41 inf49 (.cons (.tmp rfl rfl) Evp.nil) (by decide) (by decide) rfl rfl hs163) ?_
 rintro _ w175 ⟨g174,rfl,hs177⟩
 refine u_on (S':=fun u => St H12 u (obj g174 49 [.int .u8 2,.int .u64 (((r + 1):Nat):Int),.int .i64 0,.int .u16 (((setR n e31):Nat):Int),.int .i64 0,.slice A148 n149 c150]::obj g152 69 [.int .u8 ((e139.I:Nat):Int),.slice A148 n149 c150]::row 49 6 v_al al.length c_al::row 41 1 lv eb.length cb::obj g54 47 [.int .u64 (((r + 1):Nat):Int),.int .i64 0,.int .u16 (((setR n e31):Nat):Int)]::L)) (fun u hu => hu.drop) (fun u hu => (hu.drop.p2).drop) (St.erDrop [obj g174 49 [.int .u8 2,.int .u64 (((r + 1):Nat):Int),.int .i64 0,.int .u16 (((setR n e31):Nat):Int),.int .i64 0,.slice A148 n149 c150],obj g152 69 [.int .u8 ((e139.I:Nat):Int),.slice A148 n149 c150],row 49 6 v_al al.length c_al,row 41 1 lv eb.length cb,obj g54 47 [.int .u64 (((r + 1):Nat):Int),.int .i64 0,.int .u16 (((setR n e31):Nat):Int)]] hs177) ?_
 refine u_eff (k:=11) rfl ?_
 have hs178:St H12 _ (row 49 6 e167.v e167.xs.length e167.c::obj g174 49 [.int .u8 2,.int .u64 (((r + 1):Nat):Int),.int .i64 0,.int .u16 (((setR n e31):Nat):Int),.int .i64 0,.slice A148 n149 c150]::obj g152 69 [.int .u8 ((e139.I:Nat):Int),.slice A148 n149 c150]::row 49 6 v_al al.length c_al::row 41 1 lv eb.length cb::obj g54 47 [.int .u64 (((r + 1):Nat):Int),.int .i64 0,.int .u16 (((setR n e31):Nat):Int)]::ersR 49 (eb.eraseIdx (e139.I % n)) ++ (L)):=St.erOut (TE:=49) [obj g174 49 [.int .u8 2,.int .u64 (((r + 1):Nat):Int),.int .i64 0,.int .u16 (((setR n e31):Nat):Int),.int .i64 0,.slice A148 n149 c150],obj g152 69 [.int .u8 ((e139.I:Nat):Int),.slice A148 n149 c150],row 49 6 v_al al.length c_al,row 41 1 lv eb.length cb,obj g54 47 [.int .u64 (((r + 1):Nat):Int),.int .i64 0,.int .u16 (((setR n e31):Nat):Int)]] hs177 hx169
 have hr186:kEvent.rep H12 (GEvent.mk 2 (GView.mk (GViewID.mk (r + 1) 0) (setR n e31)) 0 e139.M) [.int .u8 2,.int .u64 (((r + 1):Nat):Int),.int .i64 0,.int .u16 (((setR n e31):Nat):Int),.int .i64 0,.slice A148 n149 c150]:=⟨A148,n149,c150,rfl,(show 2 < 256 from by omega),hb30,(show IB 0 from ⟨by omega,by omega⟩),hS_e31,(show IB 0 from ⟨by omega,by omega⟩),hy151⟩
 refine st_m (m_appK (d:=kEvent) (ys:=[(GEvent.mk 2 (GView.mk (GViewID.mk (r + 1) 0) (setR n e31)) 0 e139.M)]) (news:=[.int .u8 2,.int .u64 (((r + 1):Nat):Int),.int .i64 0,.int .u16 (((setR n e31):Nat):Int),.int .i64 0,.slice A148 n149 c150]) Tryd.underlying41 inf49 rfl hs178 ok172 hk173 (.tmp rfl rfl) (.tmp rfl rfl) (Kn.rows_one hr186) rfl (hs178.at_ 1 rfl 0 rfl) (by have:([(GEvent.mk 2 (GView.mk (GViewID.mk (r + 1) 0) (setR n e31)) 0 e139.M)]:List GEvent).length = 1:=rfl; omega) (by decide)) ?_
 rintro v179 w180 ⟨cs181,ok182,hk183,hs184⟩
 have hn185:(e167.xs ++ [(GEvent.mk 2 (GView.mk (GViewID.mk (r + 1) 0) (setR n e31)) 0 e139.M)]).length = e167.xs.length + 1:=by simp
 refine u_new (S':=fun u => St H12 u (row 49 6 v179 ((e167.xs ++ [(GEvent.mk 2 (GView.mk (GViewID.mk (r + 1) 0) (setR n e31)) 0 e139.M)]).length) cs181::obj g174 49 [.int .u8 2,.int .u64 (((r + 1):Nat):Int),.int .i64 0,.int .u16 (((setR n e31):Nat):Int),.int .i64 0,.slice A148 n149 c150]::obj g152 69 [.int .u8 ((e139.I:Nat):Int),.slice A148 n149 c150]::row 49 6 v_al al.length c_al::row 41 1 lv eb.length cb::obj g54 47 [.int .u64 (((r + 1):Nat):Int),.int .i64 0,.int .u16 (((setR n e31):Nat):Int)]::L)) rfl (fun u hu => (hu.drop.drop.p2).drop) (St.erDrop [row 49 6 v179 ((e167.xs ++ [(GEvent.mk 2 (GView.mk (GViewID.mk (r + 1) 0) (setR n e31)) 0 e139.M)]).length) cs181,obj g174 49 [.int .u8 2,.int .u64 (((r + 1):Nat):Int),.int .i64 0,.int .u16 (((setR n e31):Nat):Int),.int .i64 0,.slice A148 n149 c150],obj g152 69 [.int .u8 ((e139.I:Nat):Int),.slice A148 n149 c150],row 49 6 v_al al.length c_al,row 41 1 lv eb.length cb,obj g54 47 [.int .u64 (((r + 1):Nat):Int),.int .i64 0,.int .u16 (((setR n e31):Nat):Int)]] hs184) ?_
 obtain ⟨g187,c188,hv189⟩:=okeb.pos (by omega)
 refine u_st (k:=12) (v:=.pointer (some ⟨g187,((e139.I % n) * 1),none⟩)) rfl rfl (fun w hs => (ixo36 (.tmp rfl hv189) rfl (i:=(((e139.I % n):Nat):Int)) (.tmp rfl rfl) (by omega) (by omega) (by omega))) ?_
 refine u_eff (k:=13) rfl ?_
 obtain ⟨A190,c191,rfl,hc192⟩:=ok182.slice
 have hs193:St H12 _ (row 41 1 lv eb.length cb::row 49 6 (.slice A190 ((e167.xs ++ [(GEvent.mk 2 (GView.mk (GViewID.mk (r + 1) 0) (setR n e31)) 0 e139.M)]).length) c191) ((e167.xs ++ [(GEvent.mk 2 (GView.mk (GViewID.mk (r + 1) 0) (setR n e31)) 0 e139.M)]).length) cs181::obj g174 49 [.int .u8 2,.int .u64 (((r + 1):Nat):Int),.int .i64 0,.int .u16 (((setR n e31):Nat):Int),.int .i64 0,.slice A148 n149 c150]::obj g152 69 [.int .u8 ((e139.I:Nat):Int),.slice A148 n149 c150]::row 49 6 v_al al.length c_al::obj g54 47 [.int .u64 (((r + 1):Nat):Int),.int .i64 0,.int .u16 (((setR n e31):Nat):Int)]::ersR 49 (eb.eraseIdx (e139.I % n)) ++ (L)):=hs184.p4
 have hl199:(e139.I % n) + 1 ≤ cb.length:=by have h1:=(hkeb).1; have h2:kER.sz = 1:=rfl; rw [h2] at h1; omega
 have hr198:kER.rep H12 (ER.mk (.slice A190 ((e167.xs ++ [(GEvent.mk 2 (GView.mk (GViewID.mk (r + 1) 0) (setR n e31)) 0 e139.M)]).length) c191) cs181 (e167.xs ++ [(GEvent.mk 2 (GView.mk (GViewID.mk (r + 1) 0) (setR n e31)) 0 e139.M)])) [(.slice A190 ((e167.xs ++ [(GEvent.mk 2 (GView.mk (GViewID.mk (r + 1) 0) (setR n e31)) 0 e139.M)]).length) c191)]:=⟨rfl,ok182,hk183⟩
 refine st_m0 (stor41 hs193 hv189 (i:=((e139.I % n) * 1)) (xs':=splice cb ((e139.I % n) * 1) [(.slice A190 ((e167.xs ++ [(GEvent.mk 2 (GView.mk (GViewID.mk (r + 1) 0) (setR n e31)) 0 e139.M)]).length) c191)]) (.tmp rfl rfl) (u:=.slice A190 ((e167.xs ++ [(GEvent.mk 2 (GView.mk (GViewID.mk (r + 1) 0) (setR n e31)) 0 e139.M)]).length) c191) (.tmp rfl rfl) rfl (by omega) one1 rfl) ?_
 rintro w194 hs195
 have hk197:=Kn.rows_set (d:=kER.toKn) hkeb (i:=(e139.I % n)) (by omega) hr198
 have ok196:=okeb.splice (i:=(e139.I % n) * 1) (vs:=[(.slice A190 ((e167.xs ++ [(GEvent.mk 2 (GView.mk (GViewID.mk (r + 1) 0) (setR n e31)) 0 e139.M)]).length) c191)]) (by show (e139.I % n) * 1 + 1 ≤ _; omega)
 have hn200:(eb.set (e139.I % n) (ER.mk (.slice A190 ((e167.xs ++ [(GEvent.mk 2 (GView.mk (GViewID.mk (r + 1) 0) (setR n e31)) 0 e139.M)]).length) c191) cs181 (e167.xs ++ [(GEvent.mk 2 (GView.mk (GViewID.mk (r + 1) 0) (setR n e31)) 0 e139.M)]))).length = eb.length:=List.length_set
 have ok201:RowOk kER.sz lv (eb.set (e139.I % n) (ER.mk (.slice A190 ((e167.xs ++ [(GEvent.mk 2 (GView.mk (GViewID.mk (r + 1) 0) (setR n e31)) 0 e139.M)]).length) c191) cs181 (e167.xs ++ [(GEvent.mk 2 (GView.mk (GViewID.mk (r + 1) 0) (setR n e31)) 0 e139.M)]))).length (splice cb ((e139.I % n) * 1) [(.slice A190 ((e167.xs ++ [(GEvent.mk 2 (GView.mk (GViewID.mk (r + 1) 0) (setR n e31)) 0 e139.M)]).length) c191)]):=by rw [hn200]; exact ok196
 have hs202:St H12 w194 (row 41 1 lv ((eb.set (e139.I % n) (ER.mk (.slice A190 ((e167.xs ++ [(GEvent.mk 2 (GView.mk (GViewID.mk (r + 1) 0) (setR n e31)) 0 e139.M)]).length) c191) cs181 (e167.xs ++ [(GEvent.mk 2 (GView.mk (GViewID.mk (r + 1) 0) (setR n e31)) 0 e139.M)]))).length) (splice cb ((e139.I % n) * 1) [(.slice A190 ((e167.xs ++ [(GEvent.mk 2 (GView.mk (GViewID.mk (r + 1) 0) (setR n e31)) 0 e139.M)]).length) c191)])::row 49 6 (.slice A190 ((e167.xs ++ [(GEvent.mk 2 (GView.mk (GViewID.mk (r + 1) 0) (setR n e31)) 0 e139.M)]).length) c191) ((e167.xs ++ [(GEvent.mk 2 (GView.mk (GViewID.mk (r + 1) 0) (setR n e31)) 0 e139.M)]).length) cs181::obj g174 49 [.int .u8 2,.int .u64 (((r + 1):Nat):Int),.int .i64 0,.int .u16 (((setR n e31):Nat):Int),.int .i64 0,.slice A148 n149 c150]::obj g152 69 [.int .u8 ((e139.I:Nat):Int),.slice A148 n149 c150]::row 49 6 v_al al.length c_al::obj g54 47 [.int .u64 (((r + 1):Nat):Int),.int .i64 0,.int .u16 (((setR n e31):Nat):Int)]::ersR 49 (eb.eraseIdx (e139.I % n)) ++ (L)):=by rw [hn200]; exact hs195
 have hs203:St H12 _ (row 49 6 (.slice A190 ((e167.xs ++ [(GEvent.mk 2 (GView.mk (GViewID.mk (r + 1) 0) (setR n e31)) 0 e139.M)]).length) c191) ((e167.xs ++ [(GEvent.mk 2 (GView.mk (GViewID.mk (r + 1) 0) (setR n e31)) 0 e139.M)]).length) cs181::row 41 1 lv ((eb.set (e139.I % n) (ER.mk (.slice A190 ((e167.xs ++ [(GEvent.mk 2 (GView.mk (GViewID.mk (r + 1) 0) (setR n e31)) 0 e139.M)]).length) c191) cs181 (e167.xs ++ [(GEvent.mk 2 (GView.mk (GViewID.mk (r + 1) 0) (setR n e31)) 0 e139.M)]))).length) (splice cb ((e139.I % n) * 1) [(.slice A190 ((e167.xs ++ [(GEvent.mk 2 (GView.mk (GViewID.mk (r + 1) 0) (setR n e31)) 0 e139.M)]).length) c191)])::obj g174 49 [.int .u8 2,.int .u64 (((r + 1):Nat):Int),.int .i64 0,.int .u16 (((setR n e31):Nat):Int),.int .i64 0,.slice A148 n149 c150]::obj g152 69 [.int .u8 ((e139.I:Nat):Int),.slice A148 n149 c150]::row 49 6 v_al al.length c_al::obj g54 47 [.int .u64 (((r + 1):Nat):Int),.int .i64 0,.int .u16 (((setR n e31):Nat):Int)]::ersR 49 (eb.eraseIdx (e139.I % n)) ++ (L)):=hs202.p1
 have hs204:St H12 _ (row 41 1 lv ((eb.set (e139.I % n) (ER.mk (.slice A190 ((e167.xs ++ [(GEvent.mk 2 (GView.mk (GViewID.mk (r + 1) 0) (setR n e31)) 0 e139.M)]).length) c191) cs181 (e167.xs ++ [(GEvent.mk 2 (GView.mk (GViewID.mk (r + 1) 0) (setR n e31)) 0 e139.M)]))).length) (splice cb ((e139.I % n) * 1) [(.slice A190 ((e167.xs ++ [(GEvent.mk 2 (GView.mk (GViewID.mk (r + 1) 0) (setR n e31)) 0 e139.M)]).length) c191)])::obj g174 49 [.int .u8 2,.int .u64 (((r + 1):Nat):Int),.int .i64 0,.int .u16 (((setR n e31):Nat):Int),.int .i64 0,.slice A148 n149 c150]::obj g152 69 [.int .u8 ((e139.I:Nat):Int),.slice A148 n149 c150]::row 49 6 v_al al.length c_al::obj g54 47 [.int .u64 (((r + 1):Nat):Int),.int .i64 0,.int .u16 (((setR n e31):Nat):Int)]::ersR 49 (eb.set (e139.I % n) (ER.mk (.slice A190 ((e167.xs ++ [(GEvent.mk 2 (GView.mk (GViewID.mk (r + 1) 0) (setR n e31)) 0 e139.M)]).length) c191) cs181 (e167.xs ++ [(GEvent.mk 2 (GView.mk (GViewID.mk (r + 1) 0) (setR n e31)) 0 e139.M)]))) ++ (L)):=St.erIn (TE:=49) (q:=(ER.mk (.slice A190 ((e167.xs ++ [(GEvent.mk 2 (GView.mk (GViewID.mk (r + 1) 0) (setR n e31)) 0 e139.M)]).length) c191) cs181 (e167.xs ++ [(GEvent.mk 2 (GView.mk (GViewID.mk (r + 1) 0) (setR n e31)) 0 e139.M)]))) [row 41 1 lv ((eb.set (e139.I % n) (ER.mk (.slice A190 ((e167.xs ++ [(GEvent.mk 2 (GView.mk (GViewID.mk (r + 1) 0) (setR n e31)) 0 e139.M)]).length) c191) cs181 (e167.xs ++ [(GEvent.mk 2 (GView.mk (GViewID.mk (r + 1) 0) (setR n e31)) 0 e139.M)]))).length) (splice cb ((e139.I % n) * 1) [(.slice A190 ((e167.xs ++ [(GEvent.mk 2 (GView.mk (GViewID.mk (r + 1) 0) (setR n e31)) 0 e139.M)]).length) c191)]),obj g174 49 [.int .u8 2,.int .u64 (((r + 1):Nat):Int),.int .i64 0,.int .u16 (((setR n e31):Nat):Int),.int .i64 0,.slice A148 n149 c150],obj g152 69 [.int .u8 ((e139.I:Nat):Int),.slice A148 n149 c150],row 49 6 v_al al.length c_al,obj g54 47 [.int .u64 (((r + 1):Nat):Int),.int .i64 0,.int .u16 (((setR n e31):Nat):Int)]] hs203 hx169
 refine u_new (S':=fun u => St H12 u (row 41 1 lv ((eb.set (e139.I % n) (ER.mk (.slice A190 ((e167.xs ++ [(GEvent.mk 2 (GView.mk (GViewID.mk (r + 1) 0) (setR n e31)) 0 e139.M)]).length) c191) cs181 (e167.xs ++ [(GEvent.mk 2 (GView.mk (GViewID.mk (r + 1) 0) (setR n e31)) 0 e139.M)]))).length) (splice cb ((e139.I % n) * 1) [(.slice A190 ((e167.xs ++ [(GEvent.mk 2 (GView.mk (GViewID.mk (r + 1) 0) (setR n e31)) 0 e139.M)]).length) c191)])::obj g174 49 [.int .u8 2,.int .u64 (((r + 1):Nat):Int),.int .i64 0,.int .u16 (((setR n e31):Nat):Int),.int .i64 0,.slice A148 n149 c150]::obj g152 69 [.int .u8 ((e139.I:Nat):Int),.slice A148 n149 c150]::row 49 6 v_al al.length c_al::obj g54 47 [.int .u64 (((r + 1):Nat):Int),.int .i64 0,.int .u16 (((setR n e31):Nat):Int)]::L)) rfl (fun u hu => hu.drop.drop) (St.erDrop [row 41 1 lv ((eb.set (e139.I % n) (ER.mk (.slice A190 ((e167.xs ++ [(GEvent.mk 2 (GView.mk (GViewID.mk (r + 1) 0) (setR n e31)) 0 e139.M)]).length) c191) cs181 (e167.xs ++ [(GEvent.mk 2 (GView.mk (GViewID.mk (r + 1) 0) (setR n e31)) 0 e139.M)]))).length) (splice cb ((e139.I % n) * 1) [(.slice A190 ((e167.xs ++ [(GEvent.mk 2 (GView.mk (GViewID.mk (r + 1) 0) (setR n e31)) 0 e139.M)]).length) c191)]),obj g174 49 [.int .u8 2,.int .u64 (((r + 1):Nat):Int),.int .i64 0,.int .u16 (((setR n e31):Nat):Int),.int .i64 0,.slice A148 n149 c150],obj g152 69 [.int .u8 ((e139.I:Nat):Int),.slice A148 n149 c150],row 49 6 v_al al.length c_al,obj g54 47 [.int .u64 (((r + 1):Nat):Int),.int .i64 0,.int .u16 (((setR n e31):Nat):Int)]] hs204) ?_
 refine u_nil ?_
 refine n_then (c_region (st (v:=v_al) (x_move (.tmp rfl hρ135)) ?_))
 refine st (v:=.agg #[.int .u64 (((r + 1):Nat):Int),.int .i64 0,.int .u16 (((setR n e31):Nat):Int)]) (ld47 (cs:=[.int .u64 (((r + 1):Nat):Int),.int .i64 0,.int .u16 (((setR n e31):Nat):Int)]) (.tmp rfl hρ134) (hs204.at_ 4 rfl (0) rfl) rfl) ?_
 refine st (v:=.int .i64 (((e139.I % n):Nat):Int)) (x_move (.tmp rfl rfl)) ?_
 refine st (v:=.pointer (some ⟨g152,0 + 1,none⟩)) (fa69_1 (.tmp rfl rfl)) ?_
 refine st (v:=.slice A148 n149 c150) (ld30 (.tmp rfl rfl) (hs204.cell 2 rfl (0 + 1) rfl)) ?_
 refine st (v:=.agg #[.int .u8 3,.int .u64 (((r + 1):Nat):Int),.int .i64 0,.int .u16 (((setR n e31):Nat):Int),.int .i64 (((e139.I % n):Nat):Int),.slice A148 n149 c150]) (bl49 (ps:=[(0,.int .u8 3),(1,.agg #[.int .u64 (((r + 1):Nat):Int),.int .i64 0,.int .u16 (((setR n e31):Nat):Int)]),(2,.int .i64 (((e139.I % n):Nat):Int)),(3,.slice A148 n149 c150)]) (.cons .const (.cons (.tmp rfl rfl) (.cons (.tmp rfl rfl) (.cons (.tmp rfl rfl) Evp.nil)))) rfl) ?_
 refine st_m (m_lit (n:=1) (ps:=[(0,.agg #[.int .u8 3,.int .u64 (((r + 1):Nat):Int),.int .i64 0,.int .u16 (((setR n e31):Nat):Int),.int .i64 (((e139.I % n):Nat):Int),.slice A148 n149 c150])]) (cs:=[.int .u8 3,.int .u64 (((r + 1):Nat):Int),.int .i64 0,.int .u16 (((setR n e31):Nat):Int),.int .i64 (((e139.I % n):Nat):Int),.slice A148 n149 c150]) Tryd.underlying41 inf49 (.cons (.tmp rfl rfl) Evp.nil) (by decide) (by decide) rfl rfl hs204) ?_
 rintro _ w206 ⟨g205,rfl,hs208⟩
 have hs209:St H12 _ (row 49 6 v_al al.length c_al::obj g205 49 [.int .u8 3,.int .u64 (((r + 1):Nat):Int),.int .i64 0,.int .u16 (((setR n e31):Nat):Int),.int .i64 (((e139.I % n):Nat):Int),.slice A148 n149 c150]::row 41 1 lv ((eb.set (e139.I % n) (ER.mk (.slice A190 ((e167.xs ++ [(GEvent.mk 2 (GView.mk (GViewID.mk (r + 1) 0) (setR n e31)) 0 e139.M)]).length) c191) cs181 (e167.xs ++ [(GEvent.mk 2 (GView.mk (GViewID.mk (r + 1) 0) (setR n e31)) 0 e139.M)]))).length) (splice cb ((e139.I % n) * 1) [(.slice A190 ((e167.xs ++ [(GEvent.mk 2 (GView.mk (GViewID.mk (r + 1) 0) (setR n e31)) 0 e139.M)]).length) c191)])::obj g174 49 [.int .u8 2,.int .u64 (((r + 1):Nat):Int),.int .i64 0,.int .u16 (((setR n e31):Nat):Int),.int .i64 0,.slice A148 n149 c150]::obj g152 69 [.int .u8 ((e139.I:Nat):Int),.slice A148 n149 c150]::obj g54 47 [.int .u64 (((r + 1):Nat):Int),.int .i64 0,.int .u16 (((setR n e31):Nat):Int)]::ersR 49 (eb.set (e139.I % n) (ER.mk (.slice A190 ((e167.xs ++ [(GEvent.mk 2 (GView.mk (GViewID.mk (r + 1) 0) (setR n e31)) 0 e139.M)]).length) c191) cs181 (e167.xs ++ [(GEvent.mk 2 (GView.mk (GViewID.mk (r + 1) 0) (setR n e31)) 0 e139.M)]))) ++ (L)):=hs208.p4
 have hr217:kEvent.rep H12 (GEvent.mk 3 (GView.mk (GViewID.mk (r + 1) 0) (setR n e31)) (((e139.I % n):Nat):Int) e139.M) [.int .u8 3,.int .u64 (((r + 1):Nat):Int),.int .i64 0,.int .u16 (((setR n e31):Nat):Int),.int .i64 (((e139.I % n):Nat):Int),.slice A148 n149 c150]:=⟨A148,n149,c150,rfl,(show 3 < 256 from by omega),hb30,(show IB 0 from ⟨by omega,by omega⟩),hS_e31,(show IB (((e139.I % n):Nat):Int) from ⟨by omega,by omega⟩),hy151⟩
 refine st_m (m_appK (d:=kEvent) (ys:=[(GEvent.mk 3 (GView.mk (GViewID.mk (r + 1) 0) (setR n e31)) (((e139.I % n):Nat):Int) e139.M)]) (news:=[.int .u8 3,.int .u64 (((r + 1):Nat):Int),.int .i64 0,.int .u16 (((setR n e31):Nat):Int),.int .i64 (((e139.I % n):Nat):Int),.slice A148 n149 c150]) Tryd.underlying41 inf49 rfl hs209 ok_al hk_al (.tmp rfl rfl) (.tmp rfl rfl) (Kn.rows_one hr217) rfl (hs209.at_ 1 rfl 0 rfl) (by have:([(GEvent.mk 3 (GView.mk (GViewID.mk (r + 1) 0) (setR n e31)) (((e139.I % n):Nat):Int) e139.M)]:List GEvent).length = 1:=rfl; omega) (by decide)) ?_
 rintro v210 w211 ⟨cs212,ok213,hk214,hs215⟩
 have hn216:(al ++ [(GEvent.mk 3 (GView.mk (GViewID.mk (r + 1) 0) (setR n e31)) (((e139.I % n):Nat):Int) e139.M)]).length = al.length + 1:=by simp
 refine st (v:=v210) (x_assign (.tmp rfl rfl)) ?_
 refine c_nil (n_block (n_then (c_region (st (v:=.int .i64 ((ib:Nat):Int)) (x_move (.tmp rfl hρ136)) ?_))))
 refine st (v:=.int .i64 (((ib + 1):Nat):Int)) (x_add (k:=.i64) (a:=((ib:Nat):Int)) (b:=1) (.tmp rfl rfl) .const ((w64 (by omega) (by omega)).trans (by omega))) ?_
 refine st (v:=.int .i64 (((ib + 1):Nat):Int)) (x_assign (.tmp rfl rfl)) ?_
 refine c_nil ?_
 refine n_then ⟨_,_,rfl,?_,(ib + 1),(al ++ [(GEvent.mk 3 (GView.mk (GViewID.mk (r + 1) 0) (setR n e31)) (((e139.I % n):Nat):Int) e139.M)]),v210,cs212,(eb.set (e139.I % n) (ER.mk (.slice A190 ((e167.xs ++ [(GEvent.mk 2 (GView.mk (GViewID.mk (r + 1) 0) (setR n e31)) 0 e139.M)]).length) c191) cs181 (e167.xs ++ [(GEvent.mk 2 (GView.mk (GViewID.mk (r + 1) 0) (setR n e31)) 0 e139.M)]))),(splice cb ((e139.I % n) * 1) [(.slice A190 ((e167.xs ++ [(GEvent.mk 2 (GView.mk (GViewID.mk (r + 1) 0) (setR n e31)) 0 e139.M)]).length) c191)]),hρ130,hρ131,hρ132,hρ133,hρ134,rfl,rfl,ok213,hk214,ok201,hk197,(ph2_yes hTb hx143 ((has_nat (by omega)).symm.trans hc161) hx169 rfl),(g_set_len heleb),(by omega),(all_yes hal hx143 ((has_nat (by omega)).symm.trans hc161)),(by omega),((((((hs215.p1).drop.p2).drop.p2).drop.p2).p2).p2),rfl⟩
 omega
 have hp161:¬ (((((((setR n e31) / 2 ^ (e139.I % n)) &&& 1):Nat):Int):Int) = 1):=of_decide_eq_false hc161
 refine c_cond_f (t:=false) (.tmp rfl (cVb hc161)) rfl ?_
 refine c_skip (n_block (n_then (c_region (st (v:=.int .i64 ((ib:Nat):Int)) (x_move (.tmp rfl hρ136)) ?_))))
 refine st (v:=.int .i64 (((ib + 1):Nat):Int)) (x_add (k:=.i64) (a:=((ib:Nat):Int)) (b:=1) (.tmp rfl rfl) .const ((w64 (by omega) (by omega)).trans (by omega))) ?_
 refine st (v:=.int .i64 (((ib + 1):Nat):Int)) (x_assign (.tmp rfl rfl)) ?_
 refine c_nil ?_
 refine n_then ⟨_,_,rfl,?_,(ib + 1),al,v_al,c_al,eb,cb,hρ130,hρ131,hρ132,hρ133,hρ134,hρ135,rfl,ok_al,hk_al,okeb,hkeb,(ph2_no hTb hx143 ((has_nat (by omega)).symm.trans hc161)),(by omega),(by omega),(all_no hal hx143 ((has_nat (by omega)).symm.trans hc161)),(by omega),(((hs158.drop.p2).p2).p2),rfl⟩
 omega
 have hp138:¬ (((((ib:Nat):Int):Int) < ((n41:Nat):Int))∧((((ib:Nat):Int):Int) < 10)):=J_no (J_and decide_eq_true_iff decide_eq_true_iff) hc138
 refine c_cond_f (t:=false) (.tmp rfl (hρ129.trans (cVb hc138))) rfl ?_
 refine c_exit (x_then (x_then (x_here (n_then (c_seq (c_region ?_))))))
 have htk:e31.Sends.take ib = e31.Sends.take 10:=g_take_min (by omega) (by omega)
 have hal10:al = (runA n e31).map (evRecv (viewR n r e31)):=by rw [hal,htk]; rfl
 have hTb10:exs eb = (List.range n).map (ph2 n runs r e31 (e31.Sends.take 10)):=by rw [hTb,htk]
 have:al.length * 64 ≤ 140737488351232:=by omega
 obtain ⟨H218,A219,c220,hle221,hs222,rfl,sp223⟩:=hs137.freezeSl (d:=kEvent) ok_al hk_al this
 have:=sp223.len; have:=sp223.le
 skip
 refine st (v:=.slice A219 al.length c220) (x_move (.tmp rfl hρ135)) ?_
 refine st (v:=.int .i64 ((al.length:Nat):Int)) (x_len (n:=al.length) Tryd.underlying41 (.tmp rfl rfl)) ?_
 refine st (v:=.int .i64 ((al.length:Nat):Int)) (x_assign (.tmp rfl rfl)) ?_
 refine c_nil (n_then (c_seq (c_region (st (v:=.slice A219 al.length c220) (x_move (.tmp rfl hρ135)) ?_))))
 refine st (v:=.int .i64 ((al.length:Nat):Int)) (x_len (n:=al.length) Tryd.underlying41 (.tmp rfl rfl)) ?_
 refine st (v:=.int .i64 ((al.length:Nat):Int)) (x_assign (.tmp rfl rfl)) ?_
 refine c_nil (n_then ?_)
 refine c_cut (fun ρ w => ∃ (sm:Nat),ρ 0 = .int .i64 ((n:Nat):Int)∧ρ 1 = .slice A_runs n_runs c_runs∧ρ 5 = lv∧ρ 6 = .int .i64 ((r:Nat):Int)∧ρ 7 = .pointer (some ⟨g54,0,none⟩)∧ρ 8 = .slice A219 al.length c220∧ρ 13 = .int .i64 ((al.length:Nat):Int)∧ρ 14 = .int .i64 ((sm:Nat):Int)∧(sm = sameR e31.Had al.length)∧St H218 w (row 41 1 lv eb.length cb::obj g54 47 [.int .u64 (((r + 1):Nat):Int),.int .i64 0,.int .u16 (((setR n e31):Nat):Int)]::ersR 49 eb ++ (L))) ?_ ?_
 refine c_seq (c_region (st (v:=.slice A_runs n_runs c_runs) (x_move (.tmp rfl hρ131)) ?_))
 refine st (v:=.int .i64 ((r:Nat):Int)) (x_move (.tmp rfl hρ133)) ?_
 refine st (v:=.pointer (some ⟨b32,(o33 + r * 4),none⟩)) (ixo38 (.tmp rfl rfl) hA36 (i:=((r:Nat):Int)) (.tmp rfl rfl) (by omega) (by omega) (by omega)) ?_
 refine st (v:=.pointer (some ⟨b32,(o33 + r * 4) + 2,none⟩)) (fa67_2 (.tmp rfl rfl)) ?_
 refine st (v:=.slice A44 n45 c46) (ld30 (.tmp rfl rfl) ((hat38x (hs222.weaken hle221)).cell 2 rfl)) ?_
 refine st (v:=.int .i64 ((n45:Nat):Int)) (x_len (n:=n45) Tryd.underlying30 (.tmp rfl rfl)) ?_
 refine st (v:=.bool (decide ((0:Int) < ((n45:Nat):Int)))) (x_gtr (k:=.i64) (a:=((n45:Nat):Int)) (b:=0) (.tmp rfl rfl) .const) ?_
 refine c_nil (n_then ?_)
 rcases Bool.eq_false_or_eq_true (decide ((0:Int) < ((n45:Nat):Int))) with hc225 | hc225
 have hp225:(0:Int) < ((n45:Nat):Int):=of_decide_eq_true hc225
 refine c_cond_t (t:=true) (.tmp rfl (cVb hc225)) rfl ?_
 refine c_region (st (v:=.slice A_runs n_runs c_runs) (x_move (.tmp rfl hρ131)) ?_)
 refine st (v:=.int .i64 ((r:Nat):Int)) (x_move (.tmp rfl hρ133)) ?_
 refine st (v:=.pointer (some ⟨b32,(o33 + r * 4),none⟩)) (ixo38 (.tmp rfl rfl) hA36 (i:=((r:Nat):Int)) (.tmp rfl rfl) (by omega) (by omega) (by omega)) ?_
 refine st (v:=.pointer (some ⟨b32,(o33 + r * 4) + 2,none⟩)) (fa67_2 (.tmp rfl rfl)) ?_
 refine st (v:=.slice A44 n45 c46) (ld30 (.tmp rfl rfl) ((hat38x (hs222.weaken hle221)).cell 2 rfl)) ?_
 obtain ⟨b226,o227,hA228,hc229⟩:=(hy47.toBs.mono hle221).get (i:=0) (by omega)
 refine st (v:=.pointer (some ⟨b226,(o227 + 0 * 1),none⟩)) (ixo30 (.tmp rfl rfl) hA228 (i:=0) .const (by omega) (by omega) rfl) ?_
 refine st (v:=.int .u8 ((e31.Had.getD 0 0:Nat):Int)) (ld5 (.tmp rfl rfl) (hc229 hs222)) ?_
 have:(e31.Had.getD 0 0) < 256:=((hy47.toBs.mono hle221).lt.getD _)
 refine st (v:=.int .i64 ((e31.Had.getD 0 0:Nat):Int)) (x_conv (k:=.u8) (a:=((e31.Had.getD 0 0:Nat):Int)) Tryd.underlying5 Tryd.underlying3 (.tmp rfl rfl) (w64 (by omega) (by omega))) ?_
 refine st (v:=.slice A219 al.length c220) (x_move (.tmp rfl hρ135)) ?_
 refine st (v:=.int .i64 ((al.length:Nat):Int)) (x_len (n:=al.length) Tryd.underlying41 (.tmp rfl rfl)) ?_
 refine st (v:=.int .i64 (((al.length + 1):Nat):Int)) (x_add (k:=.i64) (a:=((al.length:Nat):Int)) (b:=1) (.tmp rfl rfl) .const ((w64 (by omega) (by omega)).trans (by omega))) ?_
 have:(e31.Had.getD 0 0) % (al.length + 1) < (al.length + 1):=Nat.mod_lt _ (by omega)
 refine st (v:=.int .i64 ((((e31.Had.getD 0 0) % (al.length + 1)):Nat):Int)) (x_remN (k:=.i64) (m:=(e31.Had.getD 0 0)) (n:=(al.length + 1)) (.tmp rfl rfl) (.tmp rfl rfl) (by omega)) ?_
 refine st (v:=.int .i64 ((((e31.Had.getD 0 0) % (al.length + 1)):Nat):Int)) (x_assign (.tmp rfl rfl)) ?_
 refine c_nil ?_
 exact n_then ⟨_,rfl,((e31.Had.getD 0 0) % (al.length + 1)),hρ130,hρ131,hρ132,hρ133,hρ134,hρ135,rfl,rfl,(g_same_yes (by omega) rfl),((hs222.p1).p1)⟩
 have hp225:¬ ((0:Int) < ((n45:Nat):Int)):=of_decide_eq_false hc225
 refine c_cond_f (t:=false) (.tmp rfl (cVb hc225)) rfl ?_
 refine c_skip ?_
 exact n_then ⟨_,rfl,al.length,hρ130,hρ131,hρ132,hρ133,hρ134,hρ135,rfl,rfl,(g_same_no (by omega)),((hs222.p1).p1)⟩
 rintro ρ w ⟨sm,hρ230,hρ231,hρ232,hρ233,hρ234,hρ235,hρ236,hρ237,hsm,hs238⟩
 refine c_seq (c_seq (c_region (st (v:=.int .i64 0) (x_assign .const) ?_)))
 refine c_nil (n_then (c_block (c_loop (fun ρ w mm => ∃ (ic:Nat) (ls:Nat) (ec:List ER) (cc:List Value),ρ 0 = .int .i64 ((n:Nat):Int)∧ρ 1 = .slice A_runs n_runs c_runs∧ρ 5 = lv∧ρ 6 = .int .i64 ((r:Nat):Int)∧ρ 7 = .pointer (some ⟨g54,0,none⟩)∧ρ 8 = .slice A219 al.length c220∧ρ 13 = .int .i64 ((ls:Nat):Int)∧ρ 14 = .int .i64 ((sm:Nat):Int)∧ρ 15 = .int .i64 ((ic:Nat):Int)∧(RowOk kER.sz lv ec.length cc)∧(kER.toKn.rows H218 ec cc)∧(exs ec = upto n (ph2 n runs r e31 (e31.Sends.take 10)) (ph3 n runs r e31) ic)∧(ec.length = n)∧(ic ≤ n)∧(ls = leastTo (setR n e31) (runH n runs.length r e31) (runA n e31).length ic)∧(ls ≤ al.length)∧St H218 w (row 41 1 lv ec.length cc::obj g54 47 [.int .u64 (((r + 1):Nat):Int),.int .i64 0,.int .u16 (((setR n e31):Nat):Int)]::ersR 49 ec ++ (L))∧mm = n - ic) _ ⟨0,al.length,eb,cb,hρ230,hρ231,hρ232,hρ233,hρ234,hρ235,hρ236,hρ237,rfl,okeb,(Kn.rows_mono hkeb hle221),(er_begin hTb10),(by omega),(by omega),(tal_len hal10),(by omega),((hs238.p1).p1),rfl⟩ ?_)))
 rintro ρ w mm ⟨ic,ls,ec,cc,hρ240,hρ241,hρ242,hρ243,hρ244,hρ245,hρ246,hρ247,hρ248,okec,hkec,hTc,helec,hic,hls,hlsl,hs249,rfl⟩
 refine c_seq (c_seq (c_region (st (v:=.int .i64 ((ic:Nat):Int)) (x_move (.tmp rfl hρ248)) ?_)))
 refine st (v:=.int .i64 ((n:Nat):Int)) (x_move (.tmp rfl hρ240)) ?_
 refine st (v:=.bool (decide ((((ic:Nat):Int):Int) < ((n:Nat):Int)))) (x_lss (k:=.i64) (a:=((ic:Nat):Int)) (b:=((n:Nat):Int)) (.tmp rfl rfl) (.tmp rfl rfl)) ?_
 refine c_nil (n_then ?_)
 rcases Bool.eq_false_or_eq_true (decide ((((ic:Nat):Int):Int) < ((n:Nat):Int))) with hc250 | hc250
 have hp250:(((ic:Nat):Int):Int) < ((n:Nat):Int):=of_decide_eq_true hc250
 refine c_cond_t (t:=true) (.tmp rfl (cVb hc250)) rfl ?_
 refine c_skip (n_then (c_seq (c_block (c_seq (c_region (st (v:=.int .i64 ((sm:Nat):Int)) (x_move (.tmp rfl hρ247)) ?_))))))
 refine st (v:=.int .i64 ((sm:Nat):Int)) (x_assign (.tmp rfl rfl)) ?_
 refine c_nil (n_then (c_seq (c_region (st (v:=.int .i64 ((r:Nat):Int)) (x_move (.tmp rfl hρ243)) ?_))))
 refine st (v:=.int .i64 (((r + 1):Nat):Int)) (x_add (k:=.i64) (a:=((r:Nat):Int)) (b:=1) (.tmp rfl rfl) .const ((w64 (by omega) (by omega)).trans (by omega))) ?_
 refine st (v:=.slice A_runs n_runs c_runs) (x_move (.tmp rfl hρ241)) ?_
 refine st (v:=.int .i64 ((n_runs:Nat):Int)) (x_len (n:=n_runs) Tryd.underlying38 (.tmp rfl rfl)) ?_
 refine st (v:=.bool (decide (((((r + 1):Nat):Int):Int) = ((n_runs:Nat):Int)))) (x_eql (k:=.i64) (a:=(((r + 1):Nat):Int)) (b:=((n_runs:Nat):Int)) (.tmp rfl rfl) (.tmp rfl rfl)) ?_
 refine st (v:=.bool (decide (((((r + 1):Nat):Int):Int) = ((n_runs:Nat):Int)))) (x_move (.tmp rfl rfl)) ?_
 refine jw 3 (fun ρ w => ρ 161 = .bool ((decide (((((r + 1):Nat):Int):Int) = ((n_runs:Nat):Int))) || (decide ((((r:Nat):Int):Int) = 5)))∧ρ 0 = .int .i64 ((n:Nat):Int)∧ρ 1 = .slice A_runs n_runs c_runs∧ρ 5 = lv∧ρ 6 = .int .i64 ((r:Nat):Int)∧ρ 7 = .pointer (some ⟨g54,0,none⟩)∧ρ 8 = .slice A219 al.length c220∧ρ 13 = .int .i64 ((ls:Nat):Int)∧ρ 14 = .int .i64 ((sm:Nat):Int)∧ρ 15 = .int .i64 ((ic:Nat):Int)∧ρ 16 = .int .i64 ((sm:Nat):Int)∧St H218 w (row 41 1 lv ec.length cc::obj g54 47 [.int .u64 (((r + 1):Nat):Int),.int .i64 0,.int .u16 (((setR n e31):Nat):Int)]::ersR 49 ec ++ (L))) ?_ ?_
 rcases Bool.eq_false_or_eq_true (decide (((((r + 1):Nat):Int):Int) = ((n_runs:Nat):Int))) with hc251 | hc251
 have hp251:((((r + 1):Nat):Int):Int) = ((n_runs:Nat):Int):=of_decide_eq_true hc251
 refine g_no (yk 158 true rfl rfl hc251) rfl ?_
 refine g_no (yk 158 true rfl rfl hc251) rfl ?_
 refine st (v:=.bool true) (x_pick_t (.tmp rfl (cVb hc251)) .const) ?_
 exact jw_end ⟨(cVb (jor_t hc251)),hρ240,hρ241,hρ242,hρ243,hρ244,hρ245,hρ246,hρ247,hρ248,rfl,hs249⟩
 have hp251:¬ (((((r + 1):Nat):Int):Int) = ((n_runs:Nat):Int)):=of_decide_eq_false hc251
 refine g_yes (yk 158 false rfl rfl hc251) ?_
 refine st (v:=.int .i64 ((r:Nat):Int)) (x_move (.tmp rfl hρ243)) ?_
 refine g_yes (yk 158 false rfl rfl hc251) ?_
 refine st (v:=.bool (decide ((((r:Nat):Int):Int) = 5))) (x_eql (k:=.i64) (a:=((r:Nat):Int)) (b:=5) (.tmp rfl rfl) .const) ?_
 refine st (v:=.bool (decide ((((r:Nat):Int):Int) = 5))) (x_pick_f (.tmp rfl (cVb hc251)) (.tmp rfl rfl)) ?_
 exact jw_end ⟨(cVb (jor_f hc251)),hρ240,hρ241,hρ242,hρ243,hρ244,hρ245,hρ246,hρ247,hρ248,rfl,hs249⟩
 rintro ρ w ⟨hρ252,hρ253,hρ254,hρ255,hρ256,hρ257,hρ258,hρ259,hρ260,hρ261,hρ262,hs263⟩
 refine st (v:=.bool ((decide (((((r + 1):Nat):Int):Int) = ((n_runs:Nat):Int))) || (decide ((((r:Nat):Int):Int) = 5)))) (x_assign (.tmp rfl hρ252)) ?_
 refine c_nil (n_then ?_)
 refine c_cut (fun ρ w => ∃ (hd:Nat),ρ 0 = .int .i64 ((n:Nat):Int)∧ρ 1 = .slice A_runs n_runs c_runs∧ρ 5 = lv∧ρ 6 = .int .i64 ((r:Nat):Int)∧ρ 7 = .pointer (some ⟨g54,0,none⟩)∧ρ 8 = .slice A219 al.length c220∧ρ 13 = .int .i64 ((ls:Nat):Int)∧ρ 14 = .int .i64 ((sm:Nat):Int)∧ρ 15 = .int .i64 ((ic:Nat):Int)∧ρ 16 = .int .i64 ((hd:Nat):Int)∧(hd = runH n runs.length r e31 ic)∧St H218 w (row 41 1 lv ec.length cc::obj g54 47 [.int .u64 (((r + 1):Nat):Int),.int .i64 0,.int .u16 (((setR n e31):Nat):Int)]::ersR 49 ec ++ (L))) ?_ ?_
 refine c_seq (c_region (st (v:=.bool ((decide (((((r + 1):Nat):Int):Int) = ((n_runs:Nat):Int))) || (decide ((((r:Nat):Int):Int) = 5)))) (x_move (.tmp rfl rfl)) ?_))
 refine st (v:=.bool ((decide (((((r + 1):Nat):Int):Int) = ((n_runs:Nat):Int))) || (decide ((((r:Nat):Int):Int) = 5)))) (x_move (.tmp rfl rfl)) ?_
 refine jw 9 (fun ρ w => ρ 172 = .bool (((decide (((((r + 1):Nat):Int):Int) = ((n_runs:Nat):Int))) || (decide ((((r:Nat):Int):Int) = 5))) && (decide ((((ic:Nat):Int):Int) < ((n45:Nat):Int))))∧ρ 0 = .int .i64 ((n:Nat):Int)∧ρ 1 = .slice A_runs n_runs c_runs∧ρ 5 = lv∧ρ 6 = .int .i64 ((r:Nat):Int)∧ρ 7 = .pointer (some ⟨g54,0,none⟩)∧ρ 8 = .slice A219 al.length c220∧ρ 13 = .int .i64 ((ls:Nat):Int)∧ρ 14 = .int .i64 ((sm:Nat):Int)∧ρ 15 = .int .i64 ((ic:Nat):Int)∧ρ 16 = .int .i64 ((sm:Nat):Int)∧St H218 w (row 41 1 lv ec.length cc::obj g54 47 [.int .u64 (((r + 1):Nat):Int),.int .i64 0,.int .u16 (((setR n e31):Nat):Int)]::ersR 49 ec ++ (L))) ?_ ?_
 rcases Bool.eq_false_or_eq_true ((decide (((((r + 1):Nat):Int):Int) = ((n_runs:Nat):Int))) || (decide ((((r:Nat):Int):Int) = 5))) with hc265 | hc265
 have hp265:(((((r + 1):Nat):Int):Int) = ((n_runs:Nat):Int)) ∨ ((((r:Nat):Int):Int) = 5):=((J_or decide_eq_true_iff decide_eq_true_iff)).1 hc265
 refine g_yes (yk 163 true rfl rfl hc265) ?_
 refine st (v:=.int .i64 ((ic:Nat):Int)) (x_move (.tmp rfl hρ261)) ?_
 refine g_yes (yk 163 true rfl rfl hc265) ?_
 refine st (v:=.slice A_runs n_runs c_runs) (x_move (.tmp rfl hρ254)) ?_
 refine g_yes (yk 163 true rfl rfl hc265) ?_
 refine st (v:=.int .i64 ((r:Nat):Int)) (x_move (.tmp rfl hρ256)) ?_
 refine g_yes (yk 163 true rfl rfl hc265) ?_
 refine st (v:=.pointer (some ⟨b32,(o33 + r * 4),none⟩)) (ixo38 (.tmp rfl rfl) hA36 (i:=((r:Nat):Int)) (.tmp rfl rfl) (by omega) (by omega) (by omega)) ?_
 refine g_yes (yk 163 true rfl rfl hc265) ?_
 refine st (v:=.pointer (some ⟨b32,(o33 + r * 4) + 2,none⟩)) (fa67_2 (.tmp rfl rfl)) ?_
 refine g_yes (yk 163 true rfl rfl hc265) ?_
 refine st (v:=.slice A44 n45 c46) (ld30 (.tmp rfl rfl) ((hat38x (hs263.weaken hle221)).cell 2 rfl)) ?_
 refine g_yes (yk 163 true rfl rfl hc265) ?_
 refine st (v:=.int .i64 ((n45:Nat):Int)) (x_len (n:=n45) Tryd.underlying30 (.tmp rfl rfl)) ?_
 refine g_yes (yk 163 true rfl rfl hc265) ?_
 refine st (v:=.bool (decide ((((ic:Nat):Int):Int) < ((n45:Nat):Int)))) (x_lss (k:=.i64) (a:=((ic:Nat):Int)) (b:=((n45:Nat):Int)) (.tmp rfl rfl) (.tmp rfl rfl)) ?_
 refine st (v:=.bool (decide ((((ic:Nat):Int):Int) < ((n45:Nat):Int)))) (x_pick_t (.tmp rfl (cVb hc265)) (.tmp rfl rfl)) ?_
 exact jw_end ⟨(cVb (jand_t hc265)),hρ253,hρ254,hρ255,hρ256,hρ257,hρ258,hρ259,hρ260,hρ261,hρ262,hs263⟩
 have hp265:¬ ((((((r + 1):Nat):Int):Int) = ((n_runs:Nat):Int)) ∨ ((((r:Nat):Int):Int) = 5)):=J_no (J_or decide_eq_true_iff decide_eq_true_iff) hc265
 refine g_no (yk 163 false rfl rfl hc265) rfl ?_
 refine g_no (yk 163 false rfl rfl hc265) rfl ?_
 refine g_no (yk 163 false rfl rfl hc265) rfl ?_
 refine g_no (yk 163 false rfl rfl hc265) rfl ?_
 refine g_no (yk 163 false rfl rfl hc265) rfl ?_
 refine g_no (yk 163 false rfl rfl hc265) rfl ?_
 refine g_no (yk 163 false rfl rfl hc265) rfl ?_
 refine g_no (yk 163 false rfl rfl hc265) rfl ?_
 refine st (v:=.bool false) (x_pick_f (.tmp rfl (cVb hc265)) .const) ?_
 exact jw_end ⟨(cVb (jand_f hc265)),hρ253,hρ254,hρ255,hρ256,hρ257,hρ258,hρ259,hρ260,hρ261,hρ262,hs263⟩
 rintro ρ w ⟨hρ266,hρ267,hρ268,hρ269,hρ270,hρ271,hρ272,hρ273,hρ274,hρ275,hρ276,hs277⟩
 refine c_nil (n_then ?_)
 rcases Bool.eq_false_or_eq_true (((decide (((((r + 1):Nat):Int):Int) = ((n_runs:Nat):Int))) || (decide ((((r:Nat):Int):Int) = 5))) && (decide ((((ic:Nat):Int):Int) < ((n45:Nat):Int)))) with hc278 | hc278
 have hp278:((((((r + 1):Nat):Int):Int) = ((n_runs:Nat):Int)) ∨ ((((r:Nat):Int):Int) = 5))∧((((ic:Nat):Int):Int) < ((n45:Nat):Int)):=((J_and (J_or decide_eq_true_iff decide_eq_true_iff) decide_eq_true_iff)).1 hc278
 refine c_cond_t (t:=true) (.tmp rfl (hρ266.trans (cVb hc278))) rfl ?_
 refine c_region (st (v:=.slice A_runs n_runs c_runs) (x_move (.tmp rfl hρ268)) ?_)
 refine st (v:=.int .i64 ((r:Nat):Int)) (x_move (.tmp rfl hρ270)) ?_
 refine st (v:=.pointer (some ⟨b32,(o33 + r * 4),none⟩)) (ixo38 (.tmp rfl rfl) hA36 (i:=((r:Nat):Int)) (.tmp rfl rfl) (by omega) (by omega) (by omega)) ?_
 refine st (v:=.pointer (some ⟨b32,(o33 + r * 4) + 2,none⟩)) (fa67_2 (.tmp rfl rfl)) ?_
 refine st (v:=.slice A44 n45 c46) (ld30 (.tmp rfl rfl) ((hat38x (hs277.weaken hle221)).cell 2 rfl)) ?_
 refine st (v:=.int .i64 ((ic:Nat):Int)) (x_move (.tmp rfl hρ275)) ?_
 obtain ⟨b279,o280,hA281,hc282⟩:=(hy47.toBs.mono hle221).get (i:=ic) (by omega)
 refine st (v:=.pointer (some ⟨b279,(o280 + ic * 1),none⟩)) (ixo30 (.tmp rfl rfl) hA281 (i:=((ic:Nat):Int)) (.tmp rfl rfl) (by omega) (by omega) rfl) ?_
 refine st (v:=.int .u8 ((e31.Had.getD ic 0:Nat):Int)) (ld5 (.tmp rfl rfl) (hc282 hs277)) ?_
 have:(e31.Had.getD ic 0) < 256:=((hy47.toBs.mono hle221).lt.getD _)
 refine st (v:=.int .i64 ((e31.Had.getD ic 0:Nat):Int)) (x_conv (k:=.u8) (a:=((e31.Had.getD ic 0:Nat):Int)) Tryd.underlying5 Tryd.underlying3 (.tmp rfl rfl) (w64 (by omega) (by omega))) ?_
 refine st (v:=.slice A219 al.length c220) (x_move (.tmp rfl hρ272)) ?_
 refine st (v:=.int .i64 ((al.length:Nat):Int)) (x_len (n:=al.length) Tryd.underlying41 (.tmp rfl rfl)) ?_
 refine st (v:=.int .i64 (((al.length + 1):Nat):Int)) (x_add (k:=.i64) (a:=((al.length:Nat):Int)) (b:=1) (.tmp rfl rfl) .const ((w64 (by omega) (by omega)).trans (by omega))) ?_
 have:(e31.Had.getD ic 0) % (al.length + 1) < (al.length + 1):=Nat.mod_lt _ (by omega)
 refine st (v:=.int .i64 ((((e31.Had.getD ic 0) % (al.length + 1)):Nat):Int)) (x_remN (k:=.i64) (m:=(e31.Had.getD ic 0)) (n:=(al.length + 1)) (.tmp rfl rfl) (.tmp rfl rfl) (by omega)) ?_
 refine st (v:=.int .i64 ((((e31.Had.getD ic 0) % (al.length + 1)):Nat):Int)) (x_assign (.tmp rfl rfl)) ?_
 refine c_nil ?_
 exact n_then ⟨_,rfl,((e31.Had.getD ic 0) % (al.length + 1)),hρ267,hρ268,hρ269,hρ270,hρ271,hρ272,hρ273,hρ274,hρ275,rfl,(had_yes2 (by omega) (by omega) (tal_len hal10).symm),((hs277.p1).p1)⟩
 have hp278:¬ (((((((r + 1):Nat):Int):Int) = ((n_runs:Nat):Int)) ∨ ((((r:Nat):Int):Int) = 5))∧((((ic:Nat):Int):Int) < ((n45:Nat):Int))):=J_no (J_and (J_or decide_eq_true_iff decide_eq_true_iff) decide_eq_true_iff) hc278
 refine c_cond_f (t:=false) (.tmp rfl (hρ266.trans (cVb hc278))) rfl ?_
 refine c_skip ?_
 exact n_then ⟨_,rfl,sm,hρ267,hρ268,hρ269,hρ270,hρ271,hρ272,hρ273,hρ274,hρ275,hρ276,(had_no2 (by omega) (by rw [hsm,tal_len hal10])),((hs277.p1).p1)⟩
 rintro ρ w ⟨hd,hρ283,hρ284,hρ285,hρ286,hρ287,hρ288,hρ289,hρ290,hρ291,hρ292,hhd,hs293⟩
 have hhl:hd ≤ al.length:=by rw [hhd,tal_len hal10]; exact hadR_le
 refine c_seq (c_region (st (v:=.pointer (some ⟨g54,0 + 2,none⟩)) (fa47_1 (.tmp rfl hρ287)) ?_))
 refine st (v:=.int .u16 (((setR n e31):Nat):Int)) (ld45 (.tmp rfl rfl) (hs293.cell 1 rfl (0 + 2) rfl)) ?_
 refine st (v:=.int .i64 ((ic:Nat):Int)) (x_move (.tmp rfl hρ291)) ?_
 have hb294:((setR n e31) / 2 ^ ic) < 65536:=Nat.lt_of_le_of_lt (Nat.div_le_self _ _) hS_e31
 refine st (v:=.int .u16 ((((setR n e31) / 2 ^ ic):Nat):Int)) (x_shr (k:=.u16) (m:=(setR n e31)) (b:=((ic:Nat):Int)) rfl (.tmp rfl rfl) (.tmp rfl rfl) (by omega) (show _ < 2 ^ 16 from hS_e31)) ?_
 have hb295:(((setR n e31) / 2 ^ ic) &&& 1) < 65536:=Nat.lt_of_le_of_lt Nat.and_le_left hb294
 refine st (v:=.int .u16 (((((setR n e31) / 2 ^ ic) &&& 1):Nat):Int)) (x_and (k:=.u16) (m:=((setR n e31) / 2 ^ ic)) (n:=1) rfl (.tmp rfl rfl) .const (show _ < 2 ^ 16 from hb294) (show _ < 2 ^ 16 from (by decide))) ?_
 refine st (v:=.bool (decide (((((((setR n e31) / 2 ^ ic) &&& 1):Nat):Int):Int) = 1))) (x_eql (k:=.u16) (a:=(((((setR n e31) / 2 ^ ic) &&& 1):Nat):Int)) (b:=1) (.tmp rfl rfl) .const) ?_
 refine c_nil (n_then ?_)
 rcases Bool.eq_false_or_eq_true (decide (((((((setR n e31) / 2 ^ ic) &&& 1):Nat):Int):Int) = 1)) with hc296 | hc296
 have hp296:((((((setR n e31) / 2 ^ ic) &&& 1):Nat):Int):Int) = 1:=of_decide_eq_true hc296
 refine c_cond_t (t:=true) (.tmp rfl (cVb hc296)) rfl ?_
 refine c_seq (u_region (L:=row 41 1 lv ec.length cc::obj g54 47 [.int .u64 (((r + 1):Nat):Int),.int .i64 0,.int .u16 (((setR n e31):Nat):Int)]::ersR 49 ec ++ (L)) (L':=row 41 1 lv ec.length cc::obj g54 47 [.int .u64 (((r + 1):Nat):Int),.int .i64 0,.int .u16 (((setR n e31):Nat):Int)]::L) (Z:=[9,11]) (F:=[0,1]) (Lw:=obj g54 47 [.int .u64 (((r + 1):Nat):Int),.int .i64 0,.int .u16 (((setR n e31):Nat):Int)]::L) (pl:=(.q 0 (.q 1 (.q 2 (.q 3 (.q 4 (.q 5 (.q 6 (.q 7 (.q 8 (.e 9 (.q 10 (.e 11 .done))))))))))))) mixed hs293 (fun u hu => (St.erDrop [row 41 1 lv ec.length cc,obj g54 47 [.int .u64 (((r + 1):Nat):Int),.int .i64 0,.int .u16 (((setR n e31):Nat):Int)]] hu)) (fun u hu => hu.drop) (by kernel_rfl) ?_)
 intro w297 hs298
 refine u_fr (k:=0) (v:=lv) rfl rfl (fun w hs => (x_move (.tmp rfl hρ285))) ?_
 refine u_fr (k:=1) (v:=.int .i64 ((ic:Nat):Int)) rfl rfl (fun w hs => (x_move (.tmp rfl hρ291))) ?_
 refine u_st (k:=2) (v:=lv) rfl rfl (fun w hs => (x_move (.tmp rfl hρ285))) ?_
 refine u_st (k:=3) (v:=.int .i64 ((ic:Nat):Int)) rfl rfl (fun w hs => (x_move (.tmp rfl hρ291))) ?_
 obtain ⟨g299,c300,hv301⟩:=okec.pos (by omega)
 obtain ⟨e302,cs303,hx304,hr305,hsub306⟩:=Kn.rows_get (i:=ic) hkec (by omega)
 obtain ⟨rfl,ok307,hk308⟩:=hr305
 have hx_e302:=(exs_at hTc hx304).2
 have hl_e302:e302.xs.length ≤ 400:=by rw [hx_e302]; exact Nat.le_trans (ph2_len (by omega)) (by rw [List.length_take]; omega)
 refine u_st (k:=4) (v:=.pointer (some ⟨g299,(ic * 1),none⟩)) rfl rfl (fun w hs => (ixo36 (.tmp rfl hv301) rfl (i:=((ic:Nat):Int)) (.tmp rfl rfl) (by omega) (by omega) (by omega))) ?_
 refine u_st (k:=5) (v:=e302.v) rfl rfl (fun w hs => (ld41 (.tmp rfl rfl) ((hs.rowAt 0 rfl hv301 (ic * 1) hsub306).cell 0 rfl))) ?_
 refine u_st (k:=6) (v:=.slice A219 al.length c220) rfl rfl (fun w hs => (x_move (.tmp rfl hρ288))) ?_
 refine u_st (k:=7) (v:=.int .i64 ((hd:Nat):Int)) rfl rfl (fun w hs => (x_move (.tmp rfl hρ292))) ?_
 refine u_st (k:=8) (v:=.slice A219 hd c220) rfl rfl (fun w hs => (sl_h (d:=kEvent) Tryd.underlying41 inf49 (a:=((hd:Nat):Int)) (.tmp rfl rfl) (.tmp rfl rfl) (by omega) (by omega))) ?_
 refine u_eff (k:=9) rfl ?_
 have hs309:St H218 _ (row 49 6 e302.v e302.xs.length e302.c::row 41 1 lv ec.length cc::obj g54 47 [.int .u64 (((r + 1):Nat):Int),.int .i64 0,.int .u16 (((setR n e31):Nat):Int)]::ersR 49 (ec.eraseIdx ic) ++ (L)):=St.erOut (TE:=49) [row 41 1 lv ec.length cc,obj g54 47 [.int .u64 (((r + 1):Nat):Int),.int .i64 0,.int .u16 (((setR n e31):Nat):Int)]] hs298 hx304
 refine st_m (m_appSl (d:=kEvent) (ys:=(al.take hd)) Tryd.underlying41 inf49 rfl hs309 ok307 hk308 (.tmp rfl rfl) (.tmp rfl rfl) (sp223.take (k:=hd) (by omega)) (by omega) (by decide)) ?_
 rintro v310 w311 ⟨cs312,ok313,hk314,hs315⟩
 have hn316:(e302.xs ++ (al.take hd)).length = e302.xs.length + hd:=by rw [List.length_append,(sp223.take (k:=hd) (by omega)).len]
 refine u_new (S':=fun u => St H218 u (row 49 6 v310 ((e302.xs ++ (al.take hd)).length) cs312::row 41 1 lv ec.length cc::obj g54 47 [.int .u64 (((r + 1):Nat):Int),.int .i64 0,.int .u16 (((setR n e31):Nat):Int)]::L)) rfl (fun u hu => hu.drop.drop) (St.erDrop [row 49 6 v310 ((e302.xs ++ (al.take hd)).length) cs312,row 41 1 lv ec.length cc,obj g54 47 [.int .u64 (((r + 1):Nat):Int),.int .i64 0,.int .u16 (((setR n e31):Nat):Int)]] hs315) ?_
 obtain ⟨g317,c318,hv319⟩:=okec.pos (by omega)
 refine u_st (k:=10) (v:=.pointer (some ⟨g317,(ic * 1),none⟩)) rfl rfl (fun w hs => (ixo36 (.tmp rfl hv319) rfl (i:=((ic:Nat):Int)) (.tmp rfl rfl) (by omega) (by omega) (by omega))) ?_
 refine u_eff (k:=11) rfl ?_
 obtain ⟨A320,c321,rfl,hc322⟩:=ok313.slice
 have hs323:St H218 _ (row 41 1 lv ec.length cc::row 49 6 (.slice A320 ((e302.xs ++ (al.take hd)).length) c321) ((e302.xs ++ (al.take hd)).length) cs312::obj g54 47 [.int .u64 (((r + 1):Nat):Int),.int .i64 0,.int .u16 (((setR n e31):Nat):Int)]::ersR 49 (ec.eraseIdx ic) ++ (L)):=hs315.p1
 have hl329:ic + 1 ≤ cc.length:=by have h1:=(hkec).1; have h2:kER.sz = 1:=rfl; rw [h2] at h1; omega
 have hr328:kER.rep H218 (ER.mk (.slice A320 ((e302.xs ++ (al.take hd)).length) c321) cs312 (e302.xs ++ (al.take hd))) [(.slice A320 ((e302.xs ++ (al.take hd)).length) c321)]:=⟨rfl,ok313,hk314⟩
 refine st_m0 (stor41 hs323 hv319 (i:=(ic * 1)) (xs':=splice cc (ic * 1) [(.slice A320 ((e302.xs ++ (al.take hd)).length) c321)]) (.tmp rfl rfl) (u:=.slice A320 ((e302.xs ++ (al.take hd)).length) c321) (.tmp rfl rfl) rfl (by omega) one1 rfl) ?_
 rintro w324 hs325
 have hk327:=Kn.rows_set (d:=kER.toKn) hkec (i:=ic) (by omega) hr328
 have ok326:=okec.splice (i:=ic * 1) (vs:=[(.slice A320 ((e302.xs ++ (al.take hd)).length) c321)]) (by show ic * 1 + 1 ≤ _; omega)
 have hn330:(ec.set ic (ER.mk (.slice A320 ((e302.xs ++ (al.take hd)).length) c321) cs312 (e302.xs ++ (al.take hd)))).length = ec.length:=List.length_set
 have ok331:RowOk kER.sz lv (ec.set ic (ER.mk (.slice A320 ((e302.xs ++ (al.take hd)).length) c321) cs312 (e302.xs ++ (al.take hd)))).length (splice cc (ic * 1) [(.slice A320 ((e302.xs ++ (al.take hd)).length) c321)]):=by rw [hn330]; exact ok326
 have hs332:St H218 w324 (row 41 1 lv ((ec.set ic (ER.mk (.slice A320 ((e302.xs ++ (al.take hd)).length) c321) cs312 (e302.xs ++ (al.take hd)))).length) (splice cc (ic * 1) [(.slice A320 ((e302.xs ++ (al.take hd)).length) c321)])::row 49 6 (.slice A320 ((e302.xs ++ (al.take hd)).length) c321) ((e302.xs ++ (al.take hd)).length) cs312::obj g54 47 [.int .u64 (((r + 1):Nat):Int),.int .i64 0,.int .u16 (((setR n e31):Nat):Int)]::ersR 49 (ec.eraseIdx ic) ++ (L)):=by rw [hn330]; exact hs325
 have hs333:St H218 _ (row 49 6 (.slice A320 ((e302.xs ++ (al.take hd)).length) c321) ((e302.xs ++ (al.take hd)).length) cs312::row 41 1 lv ((ec.set ic (ER.mk (.slice A320 ((e302.xs ++ (al.take hd)).length) c321) cs312 (e302.xs ++ (al.take hd)))).length) (splice cc (ic * 1) [(.slice A320 ((e302.xs ++ (al.take hd)).length) c321)])::obj g54 47 [.int .u64 (((r + 1):Nat):Int),.int .i64 0,.int .u16 (((setR n e31):Nat):Int)]::ersR 49 (ec.eraseIdx ic) ++ (L)):=hs332.p1
 have hs334:St H218 _ (row 41 1 lv ((ec.set ic (ER.mk (.slice A320 ((e302.xs ++ (al.take hd)).length) c321) cs312 (e302.xs ++ (al.take hd)))).length) (splice cc (ic * 1) [(.slice A320 ((e302.xs ++ (al.take hd)).length) c321)])::obj g54 47 [.int .u64 (((r + 1):Nat):Int),.int .i64 0,.int .u16 (((setR n e31):Nat):Int)]::ersR 49 (ec.set ic (ER.mk (.slice A320 ((e302.xs ++ (al.take hd)).length) c321) cs312 (e302.xs ++ (al.take hd)))) ++ (L)):=St.erIn (TE:=49) (q:=(ER.mk (.slice A320 ((e302.xs ++ (al.take hd)).length) c321) cs312 (e302.xs ++ (al.take hd)))) [row 41 1 lv ((ec.set ic (ER.mk (.slice A320 ((e302.xs ++ (al.take hd)).length) c321) cs312 (e302.xs ++ (al.take hd)))).length) (splice cc (ic * 1) [(.slice A320 ((e302.xs ++ (al.take hd)).length) c321)]),obj g54 47 [.int .u64 (((r + 1):Nat):Int),.int .i64 0,.int .u16 (((setR n e31):Nat):Int)]] hs333 hx304
 refine u_new (S':=fun u => St H218 u (row 41 1 lv ((ec.set ic (ER.mk (.slice A320 ((e302.xs ++ (al.take hd)).length) c321) cs312 (e302.xs ++ (al.take hd)))).length) (splice cc (ic * 1) [(.slice A320 ((e302.xs ++ (al.take hd)).length) c321)])::obj g54 47 [.int .u64 (((r + 1):Nat):Int),.int .i64 0,.int .u16 (((setR n e31):Nat):Int)]::L)) rfl (fun u hu => hu.drop) (St.erDrop [row 41 1 lv ((ec.set ic (ER.mk (.slice A320 ((e302.xs ++ (al.take hd)).length) c321) cs312 (e302.xs ++ (al.take hd)))).length) (splice cc (ic * 1) [(.slice A320 ((e302.xs ++ (al.take hd)).length) c321)]),obj g54 47 [.int .u64 (((r + 1):Nat):Int),.int .i64 0,.int .u16 (((setR n e31):Nat):Int)]] hs334) ?_
 refine u_nil ?_
 refine n_then (c_seq (c_region (st (v:=.int .i64 ((hd:Nat):Int)) (x_move (.tmp rfl hρ292)) ?_)))
 refine st (v:=.int .i64 ((ls:Nat):Int)) (x_move (.tmp rfl hρ289)) ?_
 refine st (v:=.bool (decide ((((hd:Nat):Int):Int) < ((ls:Nat):Int)))) (x_lss (k:=.i64) (a:=((hd:Nat):Int)) (b:=((ls:Nat):Int)) (.tmp rfl rfl) (.tmp rfl rfl)) ?_
 refine c_nil (n_then ?_)
 rcases Bool.eq_false_or_eq_true (decide ((((hd:Nat):Int):Int) < ((ls:Nat):Int))) with hc335 | hc335
 have hp335:(((hd:Nat):Int):Int) < ((ls:Nat):Int):=of_decide_eq_true hc335
 refine c_cond_t (t:=true) (.tmp rfl (cVb hc335)) rfl ?_
 refine c_region (st (v:=.int .i64 ((hd:Nat):Int)) (x_move (.tmp rfl hρ292)) ?_)
 refine st (v:=.int .i64 ((hd:Nat):Int)) (x_assign (.tmp rfl rfl)) ?_
 refine c_nil (n_block (n_then (c_region (st (v:=.int .i64 ((ic:Nat):Int)) (x_move (.tmp rfl hρ291)) ?_))))
 refine st (v:=.int .i64 (((ic + 1):Nat):Int)) (x_add (k:=.i64) (a:=((ic:Nat):Int)) (b:=1) (.tmp rfl rfl) .const ((w64 (by omega) (by omega)).trans (by omega))) ?_
 refine st (v:=.int .i64 (((ic + 1):Nat):Int)) (x_assign (.tmp rfl rfl)) ?_
 refine c_nil ?_
 refine n_then ⟨_,_,rfl,?_,(ic + 1),hd,(ec.set ic (ER.mk (.slice A320 ((e302.xs ++ (al.take hd)).length) c321) cs312 (e302.xs ++ (al.take hd)))),(splice cc (ic * 1) [(.slice A320 ((e302.xs ++ (al.take hd)).length) c321)]),hρ283,hρ284,hρ285,hρ286,hρ287,hρ288,rfl,hρ290,rfl,ok331,hk327,(er_app hTc hx304 (ph3_yes hal10 hhd ((has_nat (by omega)).symm.trans hc296))),(g_set_len helec),(by omega),(least_yes hls ((has_nat (by omega)).symm.trans hc296) hhd (by omega)),(by omega),((hs334.p1).p1),rfl⟩
 omega
 have hp335:¬ ((((hd:Nat):Int):Int) < ((ls:Nat):Int)):=of_decide_eq_false hc335
 refine c_cond_f (t:=false) (.tmp rfl (cVb hc335)) rfl ?_
 refine c_skip (n_block (n_then (c_region (st (v:=.int .i64 ((ic:Nat):Int)) (x_move (.tmp rfl hρ291)) ?_))))
 refine st (v:=.int .i64 (((ic + 1):Nat):Int)) (x_add (k:=.i64) (a:=((ic:Nat):Int)) (b:=1) (.tmp rfl rfl) .const ((w64 (by omega) (by omega)).trans (by omega))) ?_
 refine st (v:=.int .i64 (((ic + 1):Nat):Int)) (x_assign (.tmp rfl rfl)) ?_
 refine c_nil ?_
 refine n_then ⟨_,_,rfl,?_,(ic + 1),ls,(ec.set ic (ER.mk (.slice A320 ((e302.xs ++ (al.take hd)).length) c321) cs312 (e302.xs ++ (al.take hd)))),(splice cc (ic * 1) [(.slice A320 ((e302.xs ++ (al.take hd)).length) c321)]),hρ283,hρ284,hρ285,hρ286,hρ287,hρ288,hρ289,hρ290,rfl,ok331,hk327,(er_app hTc hx304 (ph3_yes hal10 hhd ((has_nat (by omega)).symm.trans hc296))),(g_set_len helec),(by omega),(least_no1 hls hhd (by omega)),(by omega),((hs334.p1).p1),rfl⟩
 omega
 have hp296:¬ (((((((setR n e31) / 2 ^ ic) &&& 1):Nat):Int):Int) = 1):=of_decide_eq_false hc296
 refine c_cond_f (t:=false) (.tmp rfl (cVb hc296)) rfl ?_
 refine c_skip (n_block (n_then (c_region (st (v:=.int .i64 ((ic:Nat):Int)) (x_move (.tmp rfl hρ291)) ?_))))
 refine st (v:=.int .i64 (((ic + 1):Nat):Int)) (x_add (k:=.i64) (a:=((ic:Nat):Int)) (b:=1) (.tmp rfl rfl) .const ((w64 (by omega) (by omega)).trans (by omega))) ?_
 refine st (v:=.int .i64 (((ic + 1):Nat):Int)) (x_assign (.tmp rfl rfl)) ?_
 refine c_nil ?_
 refine n_then ⟨_,_,rfl,?_,(ic + 1),ls,ec,cc,hρ283,hρ284,hρ285,hρ286,hρ287,hρ288,hρ289,hρ290,rfl,okec,hkec,(er_same hTc (ph3_no ((has_nat (by omega)).symm.trans hc296))),(by omega),(by omega),(least_no2 hls ((has_nat (by omega)).symm.trans hc296)),(by omega),((hs293.p1).p1),rfl⟩
 omega
 have hp250:¬ ((((ic:Nat):Int):Int) < ((n:Nat):Int)):=of_decide_eq_false hc250
 refine c_cond_f (t:=false) (.tmp rfl (cVb hc250)) rfl ?_
 refine c_exit (x_then (x_then (x_here (n_then (c_seq (c_region ?_))))))
 have hlsn:ls = runL n runs.length r e31:=by rw [hls,show ic = n by omega]; rfl
 have hTc9:exs ec = (List.range n).map (ph3 n runs r e31):=er_next hTc (by omega) (fun j _ => rfl)
 skip
 refine st (v:=.int .i64 0) (x_assign .const) ?_
 refine c_nil (n_then (c_block (c_loop (fun ρ w mm => ∃ (id:Nat) (ed:List ER) (cd:List Value),ρ 0 = .int .i64 ((n:Nat):Int)∧ρ 1 = .slice A_runs n_runs c_runs∧ρ 5 = lv∧ρ 6 = .int .i64 ((r:Nat):Int)∧ρ 7 = .pointer (some ⟨g54,0,none⟩)∧ρ 8 = .slice A219 al.length c220∧ρ 13 = .int .i64 ((ls:Nat):Int)∧ρ 18 = .int .i64 ((id:Nat):Int)∧(RowOk kER.sz lv ed.length cd)∧(kER.toKn.rows H218 ed cd)∧(exs ed = upto n (ph3 n runs r e31) (ph4 n runs r e31) id)∧(ed.length = n)∧(id ≤ n)∧St H218 w (row 41 1 lv ed.length cd::obj g54 47 [.int .u64 (((r + 1):Nat):Int),.int .i64 0,.int .u16 (((setR n e31):Nat):Int)]::ersR 49 ed ++ (L))∧mm = n - id) _ ⟨0,ec,cc,hρ240,hρ241,hρ242,hρ243,hρ244,hρ245,hρ246,rfl,okec,hkec,(er_begin hTc9),(by omega),(by omega),((hs249.p1).p1),rfl⟩ ?_)))
 rintro ρ w mm ⟨id,ed,cd,hρ337,hρ338,hρ339,hρ340,hρ341,hρ342,hρ343,hρ344,oked,hked,hTd,heled,hid,hs345,rfl⟩
 refine c_seq (c_seq (c_region (st (v:=.int .i64 ((id:Nat):Int)) (x_move (.tmp rfl hρ344)) ?_)))
 refine st (v:=.int .i64 ((n:Nat):Int)) (x_move (.tmp rfl hρ337)) ?_
 refine st (v:=.bool (decide ((((id:Nat):Int):Int) < ((n:Nat):Int)))) (x_lss (k:=.i64) (a:=((id:Nat):Int)) (b:=((n:Nat):Int)) (.tmp rfl rfl) (.tmp rfl rfl)) ?_
 refine st (v:=.bool (decide ((((id:Nat):Int):Int) < ((n:Nat):Int)))) (x_move (.tmp rfl rfl)) ?_
 refine jw 9 (fun ρ w => ρ 219 = .bool ((decide ((((id:Nat):Int):Int) < ((n:Nat):Int))) && (decide ((((id:Nat):Int):Int) < ((n49:Nat):Int))))∧ρ 0 = .int .i64 ((n:Nat):Int)∧ρ 1 = .slice A_runs n_runs c_runs∧ρ 5 = lv∧ρ 6 = .int .i64 ((r:Nat):Int)∧ρ 7 = .pointer (some ⟨g54,0,none⟩)∧ρ 8 = .slice A219 al.length c220∧ρ 13 = .int .i64 ((ls:Nat):Int)∧ρ 18 = .int .i64 ((id:Nat):Int)∧St H218 w (row 41 1 lv ed.length cd::obj g54 47 [.int .u64 (((r + 1):Nat):Int),.int .i64 0,.int .u16 (((setR n e31):Nat):Int)]::ersR 49 ed ++ (L))) ?_ ?_
 rcases Bool.eq_false_or_eq_true (decide ((((id:Nat):Int):Int) < ((n:Nat):Int))) with hc346 | hc346
 have hp346:(((id:Nat):Int):Int) < ((n:Nat):Int):=of_decide_eq_true hc346
 refine g_yes (yk 210 true rfl rfl hc346) ?_
 refine st (v:=.int .i64 ((id:Nat):Int)) (x_move (.tmp rfl hρ344)) ?_
 refine g_yes (yk 210 true rfl rfl hc346) ?_
 refine st (v:=.slice A_runs n_runs c_runs) (x_move (.tmp rfl hρ338)) ?_
 refine g_yes (yk 210 true rfl rfl hc346) ?_
 refine st (v:=.int .i64 ((r:Nat):Int)) (x_move (.tmp rfl hρ340)) ?_
 refine g_yes (yk 210 true rfl rfl hc346) ?_
 refine st (v:=.pointer (some ⟨b32,(o33 + r * 4),none⟩)) (ixo38 (.tmp rfl rfl) hA36 (i:=((r:Nat):Int)) (.tmp rfl rfl) (by omega) (by omega) (by omega)) ?_
 refine g_yes (yk 210 true rfl rfl hc346) ?_
 refine st (v:=.pointer (some ⟨b32,(o33 + r * 4) + 3,none⟩)) (fa67_3 (.tmp rfl rfl)) ?_
 refine g_yes (yk 210 true rfl rfl hc346) ?_
 refine st (v:=.slice A48 n49 c50) (ld30 (.tmp rfl rfl) ((hat38x (hs345.weaken hle221)).cell 3 rfl)) ?_
 refine g_yes (yk 210 true rfl rfl hc346) ?_
 refine st (v:=.int .i64 ((n49:Nat):Int)) (x_len (n:=n49) Tryd.underlying30 (.tmp rfl rfl)) ?_
 refine g_yes (yk 210 true rfl rfl hc346) ?_
 refine st (v:=.bool (decide ((((id:Nat):Int):Int) < ((n49:Nat):Int)))) (x_lss (k:=.i64) (a:=((id:Nat):Int)) (b:=((n49:Nat):Int)) (.tmp rfl rfl) (.tmp rfl rfl)) ?_
 refine st (v:=.bool (decide ((((id:Nat):Int):Int) < ((n49:Nat):Int)))) (x_pick_t (.tmp rfl (cVb hc346)) (.tmp rfl rfl)) ?_
 exact jw_end ⟨(cVb (jand_t hc346)),hρ337,hρ338,hρ339,hρ340,hρ341,hρ342,hρ343,hρ344,hs345⟩
 have hp346:¬ ((((id:Nat):Int):Int) < ((n:Nat):Int)):=of_decide_eq_false hc346
 refine g_no (yk 210 false rfl rfl hc346) rfl ?_
 refine g_no (yk 210 false rfl rfl hc346) rfl ?_
 refine g_no (yk 210 false rfl rfl hc346) rfl ?_
 refine g_no (yk 210 false rfl rfl hc346) rfl ?_
 refine g_no (yk 210 false rfl rfl hc346) rfl ?_
 refine g_no (yk 210 false rfl rfl hc346) rfl ?_
 refine g_no (yk 210 false rfl rfl hc346) rfl ?_
 refine g_no (yk 210 false rfl rfl hc346) rfl ?_
 refine st (v:=.bool false) (x_pick_f (.tmp rfl (cVb hc346)) .const) ?_
 exact jw_end ⟨(cVb (jand_f hc346)),hρ337,hρ338,hρ339,hρ340,hρ341,hρ342,hρ343,hρ344,hs345⟩
 rintro ρ w ⟨hρ347,hρ348,hρ349,hρ350,hρ351,hρ352,hρ353,hρ354,hρ355,hs356⟩
 refine c_nil (n_then ?_)
 rcases Bool.eq_false_or_eq_true ((decide ((((id:Nat):Int):Int) < ((n:Nat):Int))) && (decide ((((id:Nat):Int):Int) < ((n49:Nat):Int)))) with hc357 | hc357
 have hp357:((((id:Nat):Int):Int) < ((n:Nat):Int))∧((((id:Nat):Int):Int) < ((n49:Nat):Int)):=((J_and decide_eq_true_iff decide_eq_true_iff)).1 hc357
 refine c_cond_t (t:=true) (.tmp rfl (hρ347.trans (cVb hc357))) rfl ?_
 refine c_skip (n_then (c_seq (c_block (c_seq (c_region (st (v:=.pointer (some ⟨g54,0 + 2,none⟩)) (fa47_1 (.tmp rfl hρ352)) ?_))))))
 refine st (v:=.int .u16 (((setR n e31):Nat):Int)) (ld45 (.tmp rfl rfl) (hs356.cell 1 rfl (0 + 2) rfl)) ?_
 refine st (v:=.int .i64 ((id:Nat):Int)) (x_move (.tmp rfl hρ355)) ?_
 have hb358:((setR n e31) / 2 ^ id) < 65536:=Nat.lt_of_le_of_lt (Nat.div_le_self _ _) hS_e31
 refine st (v:=.int .u16 ((((setR n e31) / 2 ^ id):Nat):Int)) (x_shr (k:=.u16) (m:=(setR n e31)) (b:=((id:Nat):Int)) rfl (.tmp rfl rfl) (.tmp rfl rfl) (by omega) (show _ < 2 ^ 16 from hS_e31)) ?_
 have hb359:(((setR n e31) / 2 ^ id) &&& 1) < 65536:=Nat.lt_of_le_of_lt Nat.and_le_left hb358
 refine st (v:=.int .u16 (((((setR n e31) / 2 ^ id) &&& 1):Nat):Int)) (x_and (k:=.u16) (m:=((setR n e31) / 2 ^ id)) (n:=1) rfl (.tmp rfl rfl) .const (show _ < 2 ^ 16 from hb358) (show _ < 2 ^ 16 from (by decide))) ?_
 refine st (v:=.bool (decide (((((((setR n e31) / 2 ^ id) &&& 1):Nat):Int):Int) = 1))) (x_eql (k:=.u16) (a:=(((((setR n e31) / 2 ^ id) &&& 1):Nat):Int)) (b:=1) (.tmp rfl rfl) .const) ?_
 refine c_nil (n_then ?_)
 rcases Bool.eq_false_or_eq_true (decide (((((((setR n e31) / 2 ^ id) &&& 1):Nat):Int):Int) = 1)) with hc360 | hc360
 have hp360:((((((setR n e31) / 2 ^ id) &&& 1):Nat):Int):Int) = 1:=of_decide_eq_true hc360
 refine c_cond_t (t:=true) (.tmp rfl (cVb hc360)) rfl ?_
 refine c_seq (c_region (st (v:=.int .i64 0) (x_assign .const) ?_))
 refine c_nil (n_then (c_block ?_))
 have hmM:e31.Safe.getD id 0 % (ls + 1) < ls + 1:=Nat.mod_lt _ (by omega)
 refine c_loop (fun ρ w mm => ∃ (ie:Nat) (ee:List ER) (ce:List Value),ρ 0 = .int .i64 ((n:Nat):Int)∧ρ 1 = .slice A_runs n_runs c_runs∧ρ 5 = lv∧ρ 6 = .int .i64 ((r:Nat):Int)∧ρ 7 = .pointer (some ⟨g54,0,none⟩)∧ρ 8 = .slice A219 al.length c220∧ρ 13 = .int .i64 ((ls:Nat):Int)∧ρ 18 = .int .i64 ((id:Nat):Int)∧ρ 19 = .int .i64 ((ie:Nat):Int)∧(RowOk kER.sz lv ee.length ce)∧(kER.toKn.rows H218 ee ce)∧(exs ee = (upto n (ph3 n runs r e31) (ph4 n runs r e31) id).set id (ph3 n runs r e31 id ++ ((runA n e31).take ie).map (evSafe (viewR n r e31))))∧(ee.length = n)∧(ie ≤ e31.Safe.getD id 0 % (ls + 1))∧St H218 w (row 41 1 lv ee.length ce::obj g54 47 [.int .u64 (((r + 1):Nat):Int),.int .i64 0,.int .u16 (((setR n e31):Nat):Int)]::ersR 49 ee ++ (L))∧mm = e31.Safe.getD id 0 % (ls + 1) - ie) _ ⟨0,ed,cd,hρ348,hρ349,hρ350,hρ351,hρ352,hρ353,hρ354,hρ355,rfl,oked,hked,(one_begin hTd (by omega) (by rw [List.take_zero]; rfl)),(by omega),(by omega),((hs356.p1).p1),rfl⟩ ?_
 rintro ρ w mm ⟨ie,ee,ce,hρ362,hρ363,hρ364,hρ365,hρ366,hρ367,hρ368,hρ369,hρ370,okee,hkee,hTe,helee,hie,hs371,rfl⟩
 refine c_seq (c_seq (c_region (st (v:=.int .i64 ((ie:Nat):Int)) (x_move (.tmp rfl hρ370)) ?_)))
 refine st (v:=.slice A_runs n_runs c_runs) (x_move (.tmp rfl hρ363)) ?_
 refine st (v:=.int .i64 ((r:Nat):Int)) (x_move (.tmp rfl hρ365)) ?_
 refine st (v:=.pointer (some ⟨b32,(o33 + r * 4),none⟩)) (ixo38 (.tmp rfl rfl) hA36 (i:=((r:Nat):Int)) (.tmp rfl rfl) (by omega) (by omega) (by omega)) ?_
 refine st (v:=.pointer (some ⟨b32,(o33 + r * 4) + 3,none⟩)) (fa67_3 (.tmp rfl rfl)) ?_
 refine st (v:=.slice A48 n49 c50) (ld30 (.tmp rfl rfl) ((hat38x (hs371.weaken hle221)).cell 3 rfl)) ?_
 refine st (v:=.int .i64 ((id:Nat):Int)) (x_move (.tmp rfl hρ369)) ?_
 obtain ⟨b372,o373,hA374,hc375⟩:=(hy51.toBs.mono hle221).get (i:=id) (by omega)
 refine st (v:=.pointer (some ⟨b372,(o373 + id * 1),none⟩)) (ixo30 (.tmp rfl rfl) hA374 (i:=((id:Nat):Int)) (.tmp rfl rfl) (by omega) (by omega) rfl) ?_
 refine st (v:=.int .u8 ((e31.Safe.getD id 0:Nat):Int)) (ld5 (.tmp rfl rfl) (hc375 hs371)) ?_
 have:(e31.Safe.getD id 0) < 256:=((hy51.toBs.mono hle221).lt.getD _)
 refine st (v:=.int .i64 ((e31.Safe.getD id 0:Nat):Int)) (x_conv (k:=.u8) (a:=((e31.Safe.getD id 0:Nat):Int)) Tryd.underlying5 Tryd.underlying3 (.tmp rfl rfl) (w64 (by omega) (by omega))) ?_
 refine st (v:=.int .i64 ((ls:Nat):Int)) (x_move (.tmp rfl hρ368)) ?_
 refine st (v:=.int .i64 (((ls + 1):Nat):Int)) (x_add (k:=.i64) (a:=((ls:Nat):Int)) (b:=1) (.tmp rfl rfl) .const ((w64 (by omega) (by omega)).trans (by omega))) ?_
 have:(e31.Safe.getD id 0) % (ls + 1) < (ls + 1):=Nat.mod_lt _ (by omega)
 refine st (v:=.int .i64 ((((e31.Safe.getD id 0) % (ls + 1)):Nat):Int)) (x_remN (k:=.i64) (m:=(e31.Safe.getD id 0)) (n:=(ls + 1)) (.tmp rfl rfl) (.tmp rfl rfl) (by omega)) ?_
 refine st (v:=.bool (decide ((((ie:Nat):Int):Int) < ((((e31.Safe.getD id 0) % (ls + 1)):Nat):Int)))) (x_lss (k:=.i64) (a:=((ie:Nat):Int)) (b:=((((e31.Safe.getD id 0) % (ls + 1)):Nat):Int)) (.tmp rfl rfl) (.tmp rfl rfl)) ?_
 refine c_nil (n_then ?_)
 rcases Bool.eq_false_or_eq_true (decide ((((ie:Nat):Int):Int) < ((((e31.Safe.getD id 0) % (ls + 1)):Nat):Int))) with hc376 | hc376
 have hp376:(((ie:Nat):Int):Int) < ((((e31.Safe.getD id 0) % (ls + 1)):Nat):Int):=of_decide_eq_true hc376
 refine c_cond_t (t:=true) (.tmp rfl (cVb hc376)) rfl ?_
 refine c_skip (n_then (c_seq (c_block (c_seq (c_region (st (v:=.slice A219 al.length c220) (x_move (.tmp rfl hρ367)) ?_))))))
 refine st (v:=.int .i64 ((ie:Nat):Int)) (x_move (.tmp rfl hρ370)) ?_
 obtain ⟨e377,b378,o379,cs380,hx381,hA382,hr383,hat384⟩:=sp223.get (i:=ie) (by omega)
 obtain ⟨A392,n393,c394,rfl,b385,b386,⟨b387,b388⟩,b389,⟨b390,b391⟩,hy395⟩:=hr383
 have:=hy395.len; have:=hy395.bnd; have:=hy395.le
 have hat384x:∀ {w:World} {L:List Res},St H218 w L → At w ⟨b378,o379 + ie * 6,none⟩ [.int .u8 ((e377.Kind:Nat):Int),.int .u64 ((e377.View.ID.N:Nat):Int),.int .i64 e377.View.ID.P,.int .u16 ((e377.View.Set:Nat):Int),.int .i64 e377.From,.slice A392 n393 c394]:=fun h => hat384 h
 refine st (v:=.pointer (some ⟨b378,(o379 + ie * 6),none⟩)) (ixo41 (.tmp rfl rfl) hA382 (i:=((ie:Nat):Int)) (.tmp rfl rfl) (by omega) (by omega) (by omega)) ?_
 refine st (v:=.agg #[.int .u8 ((e377.Kind:Nat):Int),.int .u64 ((e377.View.ID.N:Nat):Int),.int .i64 e377.View.ID.P,.int .u16 ((e377.View.Set:Nat):Int),.int .i64 e377.From,.slice A392 n393 c394]) (ld49 (cs:=[.int .u8 ((e377.Kind:Nat):Int),.int .u64 ((e377.View.ID.N:Nat):Int),.int .i64 e377.View.ID.P,.int .u16 ((e377.View.Set:Nat):Int),.int .i64 e377.From,.slice A392 n393 c394]) (.tmp rfl rfl) ((hat384x hs371).sub 0 rfl) rfl) ?_
 refine st_m (al49 (cs:=[.int .u8 0,.int .u64 0,.int .i64 0,.int .u16 0,.int .i64 0,.slice none 0 0]) hs371 rfl) ?_
 rintro _ w397 ⟨g396,rfl,hs399⟩
 refine st_m0 (sto49 (cs':=[.int .u8 ((e377.Kind:Nat):Int),.int .u64 ((e377.View.ID.N:Nat):Int),.int .i64 e377.View.ID.P,.int .u16 ((e377.View.Set:Nat):Int),.int .i64 e377.From,.slice A392 n393 c394]) (i:=0) hs399 (v:=.agg #[.int .u8 ((e377.Kind:Nat):Int),.int .u64 ((e377.View.ID.N:Nat):Int),.int .i64 e377.View.ID.P,.int .u16 ((e377.View.Set:Nat):Int),.int .i64 e377.From,.slice A392 n393 c394]) (.tmp rfl rfl) (.tmp rfl rfl) rfl (Nat.le_of_ble_eq_true rfl) (oneA rfl) rfl) ?_
 rintro w400 hs402
 refine c_nil (n_then (c_seq (c_region (st (v:=.pointer (some ⟨g396,0 + 0,none⟩)) (fa49_0 (.tmp rfl rfl)) ?_))))
 refine st_m0 (sto5 (cs':=[.int .u8 4,.int .u64 ((e377.View.ID.N:Nat):Int),.int .i64 e377.View.ID.P,.int .u16 ((e377.View.Set:Nat):Int),.int .i64 e377.From,.slice A392 n393 c394]) (i:=0 + 0) hs402 (v:=.int .u8 4) (.tmp rfl rfl) .const rfl (Nat.le_of_ble_eq_true rfl) one1 rfl) ?_
 rintro w403 hs405
 refine c_nil (n_then (u_region (L:=obj g396 49 [.int .u8 4,.int .u64 ((e377.View.ID.N:Nat):Int),.int .i64 e377.View.ID.P,.int .u16 ((e377.View.Set:Nat):Int),.int .i64 e377.From,.slice A392 n393 c394]::row 41 1 lv ee.length ce::obj g54 47 [.int .u64 (((r + 1):Nat):Int),.int .i64 0,.int .u16 (((setR n e31):Nat):Int)]::ersR 49 ee ++ (L)) (L':=obj g396 49 [.int .u8 4,.int .u64 ((e377.View.ID.N:Nat):Int),.int .i64 e377.View.ID.P,.int .u16 ((e377.View.Set:Nat):Int),.int .i64 e377.From,.slice A392 n393 c394]::row 41 1 lv ee.length ce::obj g54 47 [.int .u64 (((r + 1):Nat):Int),.int .i64 0,.int .u16 (((setR n e31):Nat):Int)]::L) (Z:=[8,10]) (F:=[0,1]) (Lw:=obj g396 49 [.int .u8 4,.int .u64 ((e377.View.ID.N:Nat):Int),.int .i64 e377.View.ID.P,.int .u16 ((e377.View.Set:Nat):Int),.int .i64 e377.From,.slice A392 n393 c394]::obj g54 47 [.int .u64 (((r + 1):Nat):Int),.int .i64 0,.int .u16 (((setR n e31):Nat):Int)]::L) (pl:=(.q 0 (.q 1 (.q 2 (.q 3 (.q 4 (.q 5 (.q 6 (.e 7 (.e 8 (.q 9 (.e 10 .done)))))))))))) mixed hs405 (fun u hu => (St.erDrop [obj g396 49 [.int .u8 4,.int .u64 ((e377.View.ID.N:Nat):Int),.int .i64 e377.View.ID.P,.int .u16 ((e377.View.Set:Nat):Int),.int .i64 e377.From,.slice A392 n393 c394],row 41 1 lv ee.length ce,obj g54 47 [.int .u64 (((r + 1):Nat):Int),.int .i64 0,.int .u16 (((setR n e31):Nat):Int)]] hu)) (fun u hu => (hu.p1).drop) (by kernel_rfl) ?_))
 intro w406 hs407
 refine u_fr (k:=0) (v:=lv) rfl rfl (fun w hs => (x_move (.tmp rfl hρ364))) ?_
 refine u_fr (k:=1) (v:=.int .i64 ((id:Nat):Int)) rfl rfl (fun w hs => (x_move (.tmp rfl hρ369))) ?_
 refine u_st (k:=2) (v:=lv) rfl rfl (fun w hs => (x_move (.tmp rfl hρ364))) ?_
 refine u_st (k:=3) (v:=.int .i64 ((id:Nat):Int)) rfl rfl (fun w hs => (x_move (.tmp rfl hρ369))) ?_
 obtain ⟨g408,c409,hv410⟩:=okee.pos (by omega)
 obtain ⟨e411,cs412,hx413,hr414,hsub415⟩:=Kn.rows_get (i:=id) hkee (by omega)
 obtain ⟨rfl,ok416,hk417⟩:=hr414
 have hx_e411:=one_at hTe (by omega) hx413
 have hl_e411:e411.xs.length ≤ 400:=by rw [hx_e411,List.length_append,List.length_map,List.length_take]; have h9:=ph3_len (n:=n) (runs:=runs) (x:=e31) (j:=id) (show r < 6 by omega); omega
 refine u_st (k:=4) (v:=.pointer (some ⟨g408,(id * 1),none⟩)) rfl rfl (fun w hs => (ixo36 (.tmp rfl hv410) rfl (i:=((id:Nat):Int)) (.tmp rfl rfl) (by omega) (by omega) (by omega))) ?_
 refine u_st (k:=5) (v:=e411.v) rfl rfl (fun w hs => (ld41 (.tmp rfl rfl) ((hs.rowAt 1 rfl hv410 (id * 1) hsub415).cell 0 rfl))) ?_
 refine u_st (k:=6) (v:=.agg #[.int .u8 4,.int .u64 ((e377.View.ID.N:Nat):Int),.int .i64 e377.View.ID.P,.int .u16 ((e377.View.Set:Nat):Int),.int .i64 e377.From,.slice A392 n393 c394]) rfl rfl (fun w hs => (ld49 (cs:=[.int .u8 4,.int .u64 ((e377.View.ID.N:Nat):Int),.int .i64 e377.View.ID.P,.int .u16 ((e377.View.Set:Nat):Int),.int .i64 e377.From,.slice A392 n393 c394]) (.tmp rfl rfl) (hs.at_ 0 rfl (0) rfl) rfl)) ?_
 refine u_eff (k:=7) rfl ?_
 refine st_m (m_lit (n:=1) (ps:=[(0,.agg #[.int .u8 4,.int .u64 ((e377.View.ID.N:Nat):Int),.int .i64 e377.View.ID.P,.int .u16 ((e377.View.Set:Nat):Int),.int .i64 e377.From,.slice A392 n393 c394])]) (cs:=[.int .u8 4,.int .u64 ((e377.View.ID.N:Nat):Int),.int .i64 e377.View.ID.P,.int .u16 ((e377.View.Set:Nat):Int),.int .i64 e377.From,.slice A392 n393 c394]) Tryd.underlying41 inf49 (.cons (.tmp rfl rfl) Evp.nil) (by decide) (by decide) rfl rfl hs407) ?_
 rintro _ w419 ⟨g418,rfl,hs421⟩
 refine u_on (S':=fun u => St H218 u (obj g418 49 [.int .u8 4,.int .u64 ((e377.View.ID.N:Nat):Int),.int .i64 e377.View.ID.P,.int .u16 ((e377.View.Set:Nat):Int),.int .i64 e377.From,.slice A392 n393 c394]::obj g396 49 [.int .u8 4,.int .u64 ((e377.View.ID.N:Nat):Int),.int .i64 e377.View.ID.P,.int .u16 ((e377.View.Set:Nat):Int),.int .i64 e377.From,.slice A392 n393 c394]::row 41 1 lv ee.length ce::obj g54 47 [.int .u64 (((r + 1):Nat):Int),.int .i64 0,.int .u16 (((setR n e31):Nat):Int)]::L)) (fun u hu => hu.drop) (fun u hu => (hu.drop.p1).drop) (St.erDrop [obj g418 49 [.int .u8 4,.int .u64 ((e377.View.ID.N:Nat):Int),.int .i64 e377.View.ID.P,.int .u16 ((e377.View.Set:Nat):Int),.int .i64 e377.From,.slice A392 n393 c394],obj g396 49 [.int .u8 4,.int .u64 ((e377.View.ID.N:Nat):Int),.int .i64 e377.View.ID.P,.int .u16 ((e377.View.Set:Nat):Int),.int .i64 e377.From,.slice A392 n393 c394],row 41 1 lv ee.length ce,obj g54 47 [.int .u64 (((r + 1):Nat):Int),.int .i64 0,.int .u16 (((setR n e31):Nat):Int)]] hs421) ?_
 refine u_eff (k:=8) rfl ?_
 have hs422:St H218 _ (row 49 6 e411.v e411.xs.length e411.c::obj g418 49 [.int .u8 4,.int .u64 ((e377.View.ID.N:Nat):Int),.int .i64 e377.View.ID.P,.int .u16 ((e377.View.Set:Nat):Int),.int .i64 e377.From,.slice A392 n393 c394]::obj g396 49 [.int .u8 4,.int .u64 ((e377.View.ID.N:Nat):Int),.int .i64 e377.View.ID.P,.int .u16 ((e377.View.Set:Nat):Int),.int .i64 e377.From,.slice A392 n393 c394]::row 41 1 lv ee.length ce::obj g54 47 [.int .u64 (((r + 1):Nat):Int),.int .i64 0,.int .u16 (((setR n e31):Nat):Int)]::ersR 49 (ee.eraseIdx id) ++ (L)):=St.erOut (TE:=49) [obj g418 49 [.int .u8 4,.int .u64 ((e377.View.ID.N:Nat):Int),.int .i64 e377.View.ID.P,.int .u16 ((e377.View.Set:Nat):Int),.int .i64 e377.From,.slice A392 n393 c394],obj g396 49 [.int .u8 4,.int .u64 ((e377.View.ID.N:Nat):Int),.int .i64 e377.View.ID.P,.int .u16 ((e377.View.Set:Nat):Int),.int .i64 e377.From,.slice A392 n393 c394],row 41 1 lv ee.length ce,obj g54 47 [.int .u64 (((r + 1):Nat):Int),.int .i64 0,.int .u16 (((setR n e31):Nat):Int)]] hs421 hx413
 have hr430:kEvent.rep H218 (GEvent.mk 4 e377.View e377.From e377.M) [.int .u8 4,.int .u64 ((e377.View.ID.N:Nat):Int),.int .i64 e377.View.ID.P,.int .u16 ((e377.View.Set:Nat):Int),.int .i64 e377.From,.slice A392 n393 c394]:=⟨A392,n393,c394,rfl,(show 4 < 256 from by omega),b386,⟨b387,b388⟩,b389,⟨b390,b391⟩,hy395⟩
 refine st_m (m_appK (d:=kEvent) (ys:=[(GEvent.mk 4 e377.View e377.From e377.M)]) (news:=[.int .u8 4,.int .u64 ((e377.View.ID.N:Nat):Int),.int .i64 e377.View.ID.P,.int .u16 ((e377.View.Set:Nat):Int),.int .i64 e377.From,.slice A392 n393 c394]) Tryd.underlying41 inf49 rfl hs422 ok416 hk417 (.tmp rfl rfl) (.tmp rfl rfl) (Kn.rows_one hr430) rfl (hs422.at_ 1 rfl 0 rfl) (by have:([(GEvent.mk 4 e377.View e377.From e377.M)]:List GEvent).length = 1:=rfl; omega) (by decide)) ?_
 rintro v423 w424 ⟨cs425,ok426,hk427,hs428⟩
 have hn429:(e411.xs ++ [(GEvent.mk 4 e377.View e377.From e377.M)]).length = e411.xs.length + 1:=by simp
 refine u_new (S':=fun u => St H218 u (row 49 6 v423 ((e411.xs ++ [(GEvent.mk 4 e377.View e377.From e377.M)]).length) cs425::obj g418 49 [.int .u8 4,.int .u64 ((e377.View.ID.N:Nat):Int),.int .i64 e377.View.ID.P,.int .u16 ((e377.View.Set:Nat):Int),.int .i64 e377.From,.slice A392 n393 c394]::obj g396 49 [.int .u8 4,.int .u64 ((e377.View.ID.N:Nat):Int),.int .i64 e377.View.ID.P,.int .u16 ((e377.View.Set:Nat):Int),.int .i64 e377.From,.slice A392 n393 c394]::row 41 1 lv ee.length ce::obj g54 47 [.int .u64 (((r + 1):Nat):Int),.int .i64 0,.int .u16 (((setR n e31):Nat):Int)]::L)) rfl (fun u hu => (hu.drop.drop.p1).drop) (St.erDrop [row 49 6 v423 ((e411.xs ++ [(GEvent.mk 4 e377.View e377.From e377.M)]).length) cs425,obj g418 49 [.int .u8 4,.int .u64 ((e377.View.ID.N:Nat):Int),.int .i64 e377.View.ID.P,.int .u16 ((e377.View.Set:Nat):Int),.int .i64 e377.From,.slice A392 n393 c394],obj g396 49 [.int .u8 4,.int .u64 ((e377.View.ID.N:Nat):Int),.int .i64 e377.View.ID.P,.int .u16 ((e377.View.Set:Nat):Int),.int .i64 e377.From,.slice A392 n393 c394],row 41 1 lv ee.length ce,obj g54 47 [.int .u64 (((r + 1):Nat):Int),.int .i64 0,.int .u16 (((setR n e31):Nat):Int)]] hs428) ?_
 obtain ⟨g431,c432,hv433⟩:=okee.pos (by omega)
 refine u_st (k:=9) (v:=.pointer (some ⟨g431,(id * 1),none⟩)) rfl rfl (fun w hs => (ixo36 (.tmp rfl hv433) rfl (i:=((id:Nat):Int)) (.tmp rfl rfl) (by omega) (by omega) (by omega))) ?_
 refine u_eff (k:=10) rfl ?_
 obtain ⟨A434,c435,rfl,hc436⟩:=ok426.slice
 have hs437:St H218 _ (row 41 1 lv ee.length ce::row 49 6 (.slice A434 ((e411.xs ++ [(GEvent.mk 4 e377.View e377.From e377.M)]).length) c435) ((e411.xs ++ [(GEvent.mk 4 e377.View e377.From e377.M)]).length) cs425::obj g418 49 [.int .u8 4,.int .u64 ((e377.View.ID.N:Nat):Int),.int .i64 e377.View.ID.P,.int .u16 ((e377.View.Set:Nat):Int),.int .i64 e377.From,.slice A392 n393 c394]::obj g396 49 [.int .u8 4,.int .u64 ((e377.View.ID.N:Nat):Int),.int .i64 e377.View.ID.P,.int .u16 ((e377.View.Set:Nat):Int),.int .i64 e377.From,.slice A392 n393 c394]::obj g54 47 [.int .u64 (((r + 1):Nat):Int),.int .i64 0,.int .u16 (((setR n e31):Nat):Int)]::ersR 49 (ee.eraseIdx id) ++ (L)):=hs428.p3
 have hl443:id + 1 ≤ ce.length:=by have h1:=(hkee).1; have h2:kER.sz = 1:=rfl; rw [h2] at h1; omega
 have hr442:kER.rep H218 (ER.mk (.slice A434 ((e411.xs ++ [(GEvent.mk 4 e377.View e377.From e377.M)]).length) c435) cs425 (e411.xs ++ [(GEvent.mk 4 e377.View e377.From e377.M)])) [(.slice A434 ((e411.xs ++ [(GEvent.mk 4 e377.View e377.From e377.M)]).length) c435)]:=⟨rfl,ok426,hk427⟩
 refine st_m0 (stor41 hs437 hv433 (i:=(id * 1)) (xs':=splice ce (id * 1) [(.slice A434 ((e411.xs ++ [(GEvent.mk 4 e377.View e377.From e377.M)]).length) c435)]) (.tmp rfl rfl) (u:=.slice A434 ((e411.xs ++ [(GEvent.mk 4 e377.View e377.From e377.M)]).length) c435) (.tmp rfl rfl) rfl (by omega) one1 rfl) ?_
 rintro w438 hs439
 have hk441:=Kn.rows_set (d:=kER.toKn) hkee (i:=id) (by omega) hr442
 have ok440:=okee.splice (i:=id * 1) (vs:=[(.slice A434 ((e411.xs ++ [(GEvent.mk 4 e377.View e377.From e377.M)]).length) c435)]) (by show id * 1 + 1 ≤ _; omega)
 have hn444:(ee.set id (ER.mk (.slice A434 ((e411.xs ++ [(GEvent.mk 4 e377.View e377.From e377.M)]).length) c435) cs425 (e411.xs ++ [(GEvent.mk 4 e377.View e377.From e377.M)]))).length = ee.length:=List.length_set
 have ok445:RowOk kER.sz lv (ee.set id (ER.mk (.slice A434 ((e411.xs ++ [(GEvent.mk 4 e377.View e377.From e377.M)]).length) c435) cs425 (e411.xs ++ [(GEvent.mk 4 e377.View e377.From e377.M)]))).length (splice ce (id * 1) [(.slice A434 ((e411.xs ++ [(GEvent.mk 4 e377.View e377.From e377.M)]).length) c435)]):=by rw [hn444]; exact ok440
 have hs446:St H218 w438 (row 41 1 lv ((ee.set id (ER.mk (.slice A434 ((e411.xs ++ [(GEvent.mk 4 e377.View e377.From e377.M)]).length) c435) cs425 (e411.xs ++ [(GEvent.mk 4 e377.View e377.From e377.M)]))).length) (splice ce (id * 1) [(.slice A434 ((e411.xs ++ [(GEvent.mk 4 e377.View e377.From e377.M)]).length) c435)])::row 49 6 (.slice A434 ((e411.xs ++ [(GEvent.mk 4 e377.View e377.From e377.M)]).length) c435) ((e411.xs ++ [(GEvent.mk 4 e377.View e377.From e377.M)]).length) cs425::obj g418 49 [.int .u8 4,.int .u64 ((e377.View.ID.N:Nat):Int),.int .i64 e377.View.ID.P,.int .u16 ((e377.View.Set:Nat):Int),.int .i64 e377.From,.slice A392 n393 c394]::obj g396 49 [.int .u8 4,.int .u64 ((e377.View.ID.N:Nat):Int),.int .i64 e377.View.ID.P,.int .u16 ((e377.View.Set:Nat):Int),.int .i64 e377.From,.slice A392 n393 c394]::obj g54 47 [.int .u64 (((r + 1):Nat):Int),.int .i64 0,.int .u16 (((setR n e31):Nat):Int)]::ersR 49 (ee.eraseIdx id) ++ (L)):=by rw [hn444]; exact hs439
 have hs447:St H218 _ (row 49 6 (.slice A434 ((e411.xs ++ [(GEvent.mk 4 e377.View e377.From e377.M)]).length) c435) ((e411.xs ++ [(GEvent.mk 4 e377.View e377.From e377.M)]).length) cs425::row 41 1 lv ((ee.set id (ER.mk (.slice A434 ((e411.xs ++ [(GEvent.mk 4 e377.View e377.From e377.M)]).length) c435) cs425 (e411.xs ++ [(GEvent.mk 4 e377.View e377.From e377.M)]))).length) (splice ce (id * 1) [(.slice A434 ((e411.xs ++ [(GEvent.mk 4 e377.View e377.From e377.M)]).length) c435)])::obj g418 49 [.int .u8 4,.int .u64 ((e377.View.ID.N:Nat):Int),.int .i64 e377.View.ID.P,.int .u16 ((e377.View.Set:Nat):Int),.int .i64 e377.From,.slice A392 n393 c394]::obj g396 49 [.int .u8 4,.int .u64 ((e377.View.ID.N:Nat):Int),.int .i64 e377.View.ID.P,.int .u16 ((e377.View.Set:Nat):Int),.int .i64 e377.From,.slice A392 n393 c394]::obj g54 47 [.int .u64 (((r + 1):Nat):Int),.int .i64 0,.int .u16 (((setR n e31):Nat):Int)]::ersR 49 (ee.eraseIdx id) ++ (L)):=hs446.p1
 have hs448:St H218 _ (row 41 1 lv ((ee.set id (ER.mk (.slice A434 ((e411.xs ++ [(GEvent.mk 4 e377.View e377.From e377.M)]).length) c435) cs425 (e411.xs ++ [(GEvent.mk 4 e377.View e377.From e377.M)]))).length) (splice ce (id * 1) [(.slice A434 ((e411.xs ++ [(GEvent.mk 4 e377.View e377.From e377.M)]).length) c435)])::obj g418 49 [.int .u8 4,.int .u64 ((e377.View.ID.N:Nat):Int),.int .i64 e377.View.ID.P,.int .u16 ((e377.View.Set:Nat):Int),.int .i64 e377.From,.slice A392 n393 c394]::obj g396 49 [.int .u8 4,.int .u64 ((e377.View.ID.N:Nat):Int),.int .i64 e377.View.ID.P,.int .u16 ((e377.View.Set:Nat):Int),.int .i64 e377.From,.slice A392 n393 c394]::obj g54 47 [.int .u64 (((r + 1):Nat):Int),.int .i64 0,.int .u16 (((setR n e31):Nat):Int)]::ersR 49 (ee.set id (ER.mk (.slice A434 ((e411.xs ++ [(GEvent.mk 4 e377.View e377.From e377.M)]).length) c435) cs425 (e411.xs ++ [(GEvent.mk 4 e377.View e377.From e377.M)]))) ++ (L)):=St.erIn (TE:=49) (q:=(ER.mk (.slice A434 ((e411.xs ++ [(GEvent.mk 4 e377.View e377.From e377.M)]).length) c435) cs425 (e411.xs ++ [(GEvent.mk 4 e377.View e377.From e377.M)]))) [row 41 1 lv ((ee.set id (ER.mk (.slice A434 ((e411.xs ++ [(GEvent.mk 4 e377.View e377.From e377.M)]).length) c435) cs425 (e411.xs ++ [(GEvent.mk 4 e377.View e377.From e377.M)]))).length) (splice ce (id * 1) [(.slice A434 ((e411.xs ++ [(GEvent.mk 4 e377.View e377.From e377.M)]).length) c435)]),obj g418 49 [.int .u8 4,.int .u64 ((e377.View.ID.N:Nat):Int),.int .i64 e377.View.ID.P,.int .u16 ((e377.View.Set:Nat):Int),.int .i64 e377.From,.slice A392 n393 c394],obj g396 49 [.int .u8 4,.int .u64 ((e377.View.ID.N:Nat):Int),.int .i64 e377.View.ID.P,.int .u16 ((e377.View.Set:Nat):Int),.int .i64 e377.From,.slice A392 n393 c394],obj g54 47 [.int .u64 (((r + 1):Nat):Int),.int .i64 0,.int .u16 (((setR n e31):Nat):Int)]] hs447 hx413
 refine u_new (S':=fun u => St H218 u (row 41 1 lv ((ee.set id (ER.mk (.slice A434 ((e411.xs ++ [(GEvent.mk 4 e377.View e377.From e377.M)]).length) c435) cs425 (e411.xs ++ [(GEvent.mk 4 e377.View e377.From e377.M)]))).length) (splice ce (id * 1) [(.slice A434 ((e411.xs ++ [(GEvent.mk 4 e377.View e377.From e377.M)]).length) c435)])::obj g418 49 [.int .u8 4,.int .u64 ((e377.View.ID.N:Nat):Int),.int .i64 e377.View.ID.P,.int .u16 ((e377.View.Set:Nat):Int),.int .i64 e377.From,.slice A392 n393 c394]::obj g396 49 [.int .u8 4,.int .u64 ((e377.View.ID.N:Nat):Int),.int .i64 e377.View.ID.P,.int .u16 ((e377.View.Set:Nat):Int),.int .i64 e377.From,.slice A392 n393 c394]::obj g54 47 [.int .u64 (((r + 1):Nat):Int),.int .i64 0,.int .u16 (((setR n e31):Nat):Int)]::L)) rfl (fun u hu => hu.drop.drop) (St.erDrop [row 41 1 lv ((ee.set id (ER.mk (.slice A434 ((e411.xs ++ [(GEvent.mk 4 e377.View e377.From e377.M)]).length) c435) cs425 (e411.xs ++ [(GEvent.mk 4 e377.View e377.From e377.M)]))).length) (splice ce (id * 1) [(.slice A434 ((e411.xs ++ [(GEvent.mk 4 e377.View e377.From e377.M)]).length) c435)]),obj g418 49 [.int .u8 4,.int .u64 ((e377.View.ID.N:Nat):Int),.int .i64 e377.View.ID.P,.int .u16 ((e377.View.Set:Nat):Int),.int .i64 e377.From,.slice A392 n393 c394],obj g396 49 [.int .u8 4,.int .u64 ((e377.View.ID.N:Nat):Int),.int .i64 e377.View.ID.P,.int .u16 ((e377.View.Set:Nat):Int),.int .i64 e377.From,.slice A392 n393 c394],obj g54 47 [.int .u64 (((r + 1):Nat):Int),.int .i64 0,.int .u16 (((setR n e31):Nat):Int)]] hs448) ?_
 refine u_nil ?_
 refine n_block (n_then (c_region (st (v:=.int .i64 ((ie:Nat):Int)) (x_move (.tmp rfl hρ370)) ?_)))
 refine st (v:=.int .i64 (((ie + 1):Nat):Int)) (x_add (k:=.i64) (a:=((ie:Nat):Int)) (b:=1) (.tmp rfl rfl) .const ((w64 (by omega) (by omega)).trans (by omega))) ?_
 refine st (v:=.int .i64 (((ie + 1):Nat):Int)) (x_assign (.tmp rfl rfl)) ?_
 refine c_nil ?_
 refine n_then ⟨_,_,rfl,?_,(ie + 1),(ee.set id (ER.mk (.slice A434 ((e411.xs ++ [(GEvent.mk 4 e377.View e377.From e377.M)]).length) c435) cs425 (e411.xs ++ [(GEvent.mk 4 e377.View e377.From e377.M)]))),(splice ce (id * 1) [(.slice A434 ((e411.xs ++ [(GEvent.mk 4 e377.View e377.From e377.M)]).length) c435)]),hρ362,hρ363,hρ364,hρ365,hρ366,hρ367,hρ368,hρ369,rfl,ok445,hk441,(one_next hTe (by omega) hx413 rfl (by rw [safe_next hal10 hx381,List.append_assoc])),(g_set_len helee),(by omega),((((hs448.p1).drop.p1).drop.p1).p1),rfl⟩
 omega
 have hp376:¬ ((((ie:Nat):Int):Int) < ((((e31.Safe.getD id 0) % (ls + 1)):Nat):Int)):=of_decide_eq_false hc376
 refine c_cond_f (t:=false) (.tmp rfl (cVb hc376)) rfl ?_
 refine c_exit (x_then (x_then (x_here (n_block (n_then (c_region (st (v:=.int .i64 ((id:Nat):Int)) (x_move (.tmp rfl hρ369)) ?_)))))))
 refine st (v:=.int .i64 (((id + 1):Nat):Int)) (x_add (k:=.i64) (a:=((id:Nat):Int)) (b:=1) (.tmp rfl rfl) .const ((w64 (by omega) (by omega)).trans (by omega))) ?_
 refine st (v:=.int .i64 (((id + 1):Nat):Int)) (x_assign (.tmp rfl rfl)) ?_
 refine c_nil ?_
 refine n_then ⟨_,_,rfl,?_,(id + 1),ee,ce,hρ362,hρ363,hρ364,hρ365,hρ366,hρ367,hρ368,rfl,okee,hkee,(one_end hTe (by omega) (ph4_yes ((has_nat (by omega)).symm.trans hc360) (by omega) hlsn (by omega))),(by omega),(by omega),((hs371.p1).p1),rfl⟩
 omega
 have hp360:¬ (((((((setR n e31) / 2 ^ id) &&& 1):Nat):Int):Int) = 1):=of_decide_eq_false hc360
 refine c_cond_f (t:=false) (.tmp rfl (cVb hc360)) rfl ?_
 refine c_skip (n_block (n_then (c_region (st (v:=.int .i64 ((id:Nat):Int)) (x_move (.tmp rfl hρ355)) ?_))))
 refine st (v:=.int .i64 (((id + 1):Nat):Int)) (x_add (k:=.i64) (a:=((id:Nat):Int)) (b:=1) (.tmp rfl rfl) .const ((w64 (by omega) (by omega)).trans (by omega))) ?_
 refine st (v:=.int .i64 (((id + 1):Nat):Int)) (x_assign (.tmp rfl rfl)) ?_
 refine c_nil ?_
 refine n_then ⟨_,_,rfl,?_,(id + 1),ed,cd,hρ348,hρ349,hρ350,hρ351,hρ352,hρ353,hρ354,rfl,oked,hked,(er_same hTd (ph4_no ((has_nat (by omega)).symm.trans hc360))),(by omega),(by omega),((hs356.p1).p1),rfl⟩
 omega
 have hp357:¬ (((((id:Nat):Int):Int) < ((n:Nat):Int))∧((((id:Nat):Int):Int) < ((n49:Nat):Int))):=J_no (J_and decide_eq_true_iff decide_eq_true_iff) hc357
 refine c_cond_f (t:=false) (.tmp rfl (hρ347.trans (cVb hc357))) rfl ?_
 refine c_exit (x_then (x_then (x_here (n_block (n_then (c_region (st (v:=.int .i64 ((r:Nat):Int)) (x_move (.tmp rfl hρ351)) ?_)))))))
 refine st (v:=.int .i64 (((r + 1):Nat):Int)) (x_add (k:=.i64) (a:=((r:Nat):Int)) (b:=1) (.tmp rfl rfl) .const ((w64 (by omega) (by omega)).trans (by omega))) ?_
 refine st (v:=.int .i64 (((r + 1):Nat):Int)) (x_assign (.tmp rfl rfl)) ?_
 refine c_nil ?_
 refine n_then ⟨_,_,rfl,?_,H218,(r + 1),lv,ed,cd,hρ348,hρ349,hρ350,rfl,(hg13.trans hle221),oked,hked,(hTd.trans ((upto_rest (fun j hj hn => ph4_out (by omega))).trans (map_range_congr (fun j _ => ph4_is hx35)))),(by omega),(by omega),(hs356.p1).drop,rfl⟩
 omega
 have hp26:¬ (((((r:Nat):Int):Int) < ((n_runs:Nat):Int))∧((((r:Nat):Int):Int) < 6)):=J_no (J_and decide_eq_true_iff decide_eq_true_iff) hc26
 refine c_cond_f (t:=false) (.tmp rfl (hρ20.trans (cVb hc26))) rfl ?_
 refine c_exit (x_then (x_then (x_here (n_then (c_seq (c_region (st (v:=lv) (x_move (.tmp rfl hρ23)) ?_)))))))
 refine st (v:=lv) (x_assign (.tmp rfl rfl)) ?_
 refine c_nil (n_then (c_ret (leave_ret (res_one (v:=lv) rfl (.mk rfl rfl)) ?_)))
 have hr9:r = lenR runs:=by unfold lenR; omega
 have hX:exs es = tracesP n runs:=by rw [hTs,hr9]; rfl
 obtain ⟨H449,hle450,hs451,ok452,hk453⟩:=St.erDone [] hs25 okes hkes (by rw [hX]; exact fun e he => Nat.le_trans (traces_small e he) (by omega))
 rw [hX] at hs451 ok452 hk453
 have hs454:St H449 _ (row 41 1 lv ((tracesP n runs).length) lc::L):=hs451
 exact ⟨H449,lv,lc,(hg13.trans hle450),rfl,ok452,hk453,hs454⟩
end Go.Proofs.YtnikcgcbkdeeeaaDoor

set_option linter.unusedVariables false
set_option linter.unusedSimpArgs false
namespace Go.Proofs.YtnikcgcbkdeeeaaDoor
open Go Go.FM Go.Proofs
attribute [local irreducible] wpList wpQuiet Code.wp Calls
set_option maxHeartbeats 8000000 in
theorem safeless_spec {H:Hp} {w:World} {L:List Res} (hs:St H w (L)) {A_l:Option Addr} {n_l c_l:Nat} (l:(List GEvent)) (h_l:Sl kEvent H A_l n_l c_l l):Calls Tryd.prog 18 #[.slice A_l n_l c_l] w (fun e w' => ∃ (H':Hp) (A0:Option Addr) (n0 c0:Nat),H.le H'∧e = .returned (.slice A0 n0 c0)∧Sl kEvent H' A0 n0 c0 ((safelessT l))∧St H' w' (L)):=by
 have:=h_l.len; have:=h_l.le; have:n_l * 64 ≤ 140737488351232:=h_l.bnd
 refine enter (args:=[.slice A_l n_l c_l]) (N:=25) Tryd.func18 rfl rfl rfl ?_
 have hnb2:n_l * 64 ≤ 140737488351232:=h_l.bnd
 refine c_seq (c_region (st (v:=.slice none 0 0) (x_assign .const) ?_))
 refine c_nil (n_then (c_seq (c_region (st (v:=.slice none 0 0) (x_assign .const) ?_))))
 refine c_nil (n_then (c_seq (c_seq (c_region (st (v:=.int .i64 0) (x_assign .const) ?_)))))
 refine c_nil (n_then (c_block ?_))
 have hs2:St H _ (row 49 6 (.slice none 0 0) (([]:List GEvent).length) []::L):=hs.krowNil 49 kEvent
 have:([]:List GEvent).length = 0:=rfl
 refine c_loop (fun ρ w mm => ∃ (i:Nat) (m:List GEvent) (v_m:Value) (c_m:List Value),ρ 0 = .slice A_l n_l c_l∧ρ 3 = v_m∧ρ 4 = .int .i64 ((i:Nat):Int)∧(RowOk kEvent.sz v_m m.length c_m)∧(kEvent.toKn.rows H m c_m)∧(i ≤ n_l)∧(m = safelessT (l.take i))∧(m.length ≤ i)∧St H w (row 49 6 v_m m.length c_m::L)∧mm = n_l - i) _ ⟨0,([]:List GEvent),(.slice none 0 0),[],rfl,rfl,rfl,(RowOk.knil kEvent),(Kn.rows_nil _ _),(by omega),rfl,(Nat.le_refl _),hs2,rfl⟩ ?_
 rintro ρ w mm ⟨i,m,v_m,c_m,hρ4,hρ5,hρ6,ok_m,hk_m,hi,hm,hml,hs7,rfl⟩
 refine c_seq (c_seq (c_region (st (v:=.int .i64 ((i:Nat):Int)) (x_move (.tmp rfl hρ6)) ?_)))
 refine st (v:=.slice A_l n_l c_l) (x_move (.tmp rfl hρ4)) ?_
 refine st (v:=.int .i64 ((n_l:Nat):Int)) (x_len (n:=n_l) Tryd.underlying41 (.tmp rfl rfl)) ?_
 refine st (v:=.bool (decide ((((i:Nat):Int):Int) < ((n_l:Nat):Int)))) (x_lss (k:=.i64) (a:=((i:Nat):Int)) (b:=((n_l:Nat):Int)) (.tmp rfl rfl) (.tmp rfl rfl)) ?_
 refine c_nil (n_then ?_)
 rcases Bool.eq_false_or_eq_true (decide ((((i:Nat):Int):Int) < ((n_l:Nat):Int))) with hc8 | hc8
 have hp8:(((i:Nat):Int):Int) < ((n_l:Nat):Int):=of_decide_eq_true hc8
 refine c_cond_t (t:=true) (.tmp rfl (cVb hc8)) rfl ?_
 refine c_skip (n_then (c_seq (c_block (c_seq (c_region (st (v:=.slice A_l n_l c_l) (x_move (.tmp rfl hρ4)) ?_))))))
 refine st (v:=.int .i64 ((i:Nat):Int)) (x_move (.tmp rfl hρ6)) ?_
 obtain ⟨e9,b10,o11,cs12,hx13,hA14,hr15,hat16⟩:=h_l.get (i:=i) (by omega)
 obtain ⟨A24,n25,c26,rfl,b17,b18,⟨b19,b20⟩,b21,⟨b22,b23⟩,hy27⟩:=hr15
 have:=hy27.len; have:=hy27.bnd; have:=hy27.le
 have hat16x:∀ {w:World} {L:List Res},St H w L → At w ⟨b10,o11 + i * 6,none⟩ [.int .u8 ((e9.Kind:Nat):Int),.int .u64 ((e9.View.ID.N:Nat):Int),.int .i64 e9.View.ID.P,.int .u16 ((e9.View.Set:Nat):Int),.int .i64 e9.From,.slice A24 n25 c26]:=fun h => hat16 h
 refine st (v:=.pointer (some ⟨b10,(o11 + i * 6),none⟩)) (ixo41 (.tmp rfl rfl) hA14 (i:=((i:Nat):Int)) (.tmp rfl rfl) (by omega) (by omega) (by omega)) ?_
 refine st (v:=.pointer (some ⟨b10,(o11 + i * 6) + 0,none⟩)) (fa49_0 (.tmp rfl rfl)) ?_
 refine st (v:=.int .u8 ((e9.Kind:Nat):Int)) (ld5 (.tmp rfl rfl) ((hat16x hs7).cell 0 rfl)) ?_
 refine st (v:=.bool (decide ((((e9.Kind:Nat):Int):Int) ≠ 4))) (x_neq (k:=.u8) (a:=((e9.Kind:Nat):Int)) (b:=4) (.tmp rfl rfl) .const) ?_
 refine c_nil (n_then ?_)
 rcases Bool.eq_false_or_eq_true (decide ((((e9.Kind:Nat):Int):Int) ≠ 4)) with hc28 | hc28
 have hp28:(((e9.Kind:Nat):Int):Int) ≠ 4:=of_decide_eq_true hc28
 refine c_cond_t (t:=true) (.tmp rfl (cVb hc28)) rfl ?_
 refine c_region (st (v:=v_m) (x_move (.tmp rfl hρ5)) ?_)
 refine st (v:=.slice A_l n_l c_l) (x_move (.tmp rfl hρ4)) ?_
 refine st (v:=.int .i64 ((i:Nat):Int)) (x_move (.tmp rfl hρ6)) ?_
 refine st (v:=.pointer (some ⟨b10,(o11 + i * 6),none⟩)) (ixo41 (.tmp rfl rfl) hA14 (i:=((i:Nat):Int)) (.tmp rfl rfl) (by omega) (by omega) (by omega)) ?_
 refine st (v:=.agg #[.int .u8 ((e9.Kind:Nat):Int),.int .u64 ((e9.View.ID.N:Nat):Int),.int .i64 e9.View.ID.P,.int .u16 ((e9.View.Set:Nat):Int),.int .i64 e9.From,.slice A24 n25 c26]) (ld49 (cs:=[.int .u8 ((e9.Kind:Nat):Int),.int .u64 ((e9.View.ID.N:Nat):Int),.int .i64 e9.View.ID.P,.int .u16 ((e9.View.Set:Nat):Int),.int .i64 e9.From,.slice A24 n25 c26]) (.tmp rfl rfl) ((hat16x hs7).sub 0 rfl) rfl) ?_
 refine st_m (m_lit (n:=1) (ps:=[(0,.agg #[.int .u8 ((e9.Kind:Nat):Int),.int .u64 ((e9.View.ID.N:Nat):Int),.int .i64 e9.View.ID.P,.int .u16 ((e9.View.Set:Nat):Int),.int .i64 e9.From,.slice A24 n25 c26])]) (cs:=[.int .u8 ((e9.Kind:Nat):Int),.int .u64 ((e9.View.ID.N:Nat):Int),.int .i64 e9.View.ID.P,.int .u16 ((e9.View.Set:Nat):Int),.int .i64 e9.From,.slice A24 n25 c26]) Tryd.underlying41 inf49 (.cons (.tmp rfl rfl) Evp.nil) (by decide) (by decide) rfl rfl hs7) ?_
 rintro _ w30 ⟨g29,rfl,hs32⟩
 have hs33:=hs32.p1
 have hr41:kEvent.rep H e9 [.int .u8 ((e9.Kind:Nat):Int),.int .u64 ((e9.View.ID.N:Nat):Int),.int .i64 e9.View.ID.P,.int .u16 ((e9.View.Set:Nat):Int),.int .i64 e9.From,.slice A24 n25 c26]:=⟨A24,n25,c26,rfl,b17,b18,⟨b19,b20⟩,b21,⟨b22,b23⟩,hy27⟩
 refine st_m (m_appK (d:=kEvent) (ys:=[e9]) (news:=[.int .u8 ((e9.Kind:Nat):Int),.int .u64 ((e9.View.ID.N:Nat):Int),.int .i64 e9.View.ID.P,.int .u16 ((e9.View.Set:Nat):Int),.int .i64 e9.From,.slice A24 n25 c26]) Tryd.underlying41 inf49 rfl hs33 ok_m hk_m (.tmp rfl rfl) (.tmp rfl rfl) (Kn.rows_one hr41) rfl (hs33.at_ 1 rfl 0 rfl) (by have:([e9]:List GEvent).length = 1:=rfl; omega) (by decide)) ?_
 rintro v34 w35 ⟨cs36,ok37,hk38,hs39⟩
 have hn40:(m ++ [e9]).length = m.length + 1:=by simp
 refine st (v:=v34) (x_assign (.tmp rfl rfl)) ?_
 refine c_nil (n_block (n_then (c_region (st (v:=.int .i64 ((i:Nat):Int)) (x_move (.tmp rfl hρ6)) ?_))))
 refine st (v:=.int .i64 (((i + 1):Nat):Int)) (x_add (k:=.i64) (a:=((i:Nat):Int)) (b:=1) (.tmp rfl rfl) .const ((w64 (by omega) (by omega)).trans (by omega))) ?_
 refine st (v:=.int .i64 (((i + 1):Nat):Int)) (x_assign (.tmp rfl rfl)) ?_
 refine c_nil ?_
 refine n_then ⟨_,_,rfl,?_,(i + 1),(m ++ [e9]),v34,cs36,hρ4,rfl,rfl,ok37,hk38,(by omega),(by rw [hm]; exact less_next hx13 (by omega)),(by omega),(hs39.p1).drop,rfl⟩
 omega
 have hp28:¬ ((((e9.Kind:Nat):Int):Int) ≠ 4):=of_decide_eq_false hc28
 refine c_cond_f (t:=false) (.tmp rfl (cVb hc28)) rfl ?_
 refine c_skip (n_block (n_then (c_region (st (v:=.int .i64 ((i:Nat):Int)) (x_move (.tmp rfl hρ6)) ?_))))
 refine st (v:=.int .i64 (((i + 1):Nat):Int)) (x_add (k:=.i64) (a:=((i:Nat):Int)) (b:=1) (.tmp rfl rfl) .const ((w64 (by omega) (by omega)).trans (by omega))) ?_
 refine st (v:=.int .i64 (((i + 1):Nat):Int)) (x_assign (.tmp rfl rfl)) ?_
 refine c_nil ?_
 refine n_then ⟨_,_,rfl,?_,(i + 1),m,v_m,c_m,hρ4,hρ5,rfl,ok_m,hk_m,(by omega),(hm.trans (less_skip hx13 (by omega))),(by omega),hs7,rfl⟩
 omega
 have hp8:¬ ((((i:Nat):Int):Int) < ((n_l:Nat):Int)):=of_decide_eq_false hc8
 refine c_cond_f (t:=false) (.tmp rfl (cVb hc8)) rfl ?_
 refine c_exit (x_then (x_then (x_here (n_then (c_seq (c_region (st (v:=v_m) (x_move (.tmp rfl hρ5)) ?_)))))))
 refine st (v:=v_m) (x_assign (.tmp rfl rfl)) ?_
 refine c_nil (n_then (c_ret (leave_ret (res_one (v:=v_m) rfl (.mk rfl rfl)) ?_)))
 have hans42:safelessT l = m:=by rw [hm,List.take_of_length_le (by omega)]
 rw [hans42]
 have:m.length * 64 ≤ 140737488351232:=by omega
 obtain ⟨H43,A44,c45,hle46,hs47,rfl,sp48⟩:=hs7.freezeSl (d:=kEvent) ok_m hk_m this
 have:=sp48.len; have:=sp48.le
 exact ⟨H43,A44,m.length,c45,hle46,rfl,sp48,hs47⟩
end Go.Proofs.YtnikcgcbkdeeeaaDoor
