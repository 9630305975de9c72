/- Steps of the proofs over the functions of this seat, printed by a program (gen.py) and checked by Lean. -/
import Derived.Test.YtojlmilkdijiaaaDoorW01
import Derived.Test.YtojlmilkdijiaaaDoorW00
import Derived.Test.YtojlmilkdijiaaaDoorW07
set_option linter.unusedVariables false
set_option linter.unusedSimpArgs false
namespace Go.Proofs.YtojlmilkdijiaaaDoor
open Go Go.FM Go.Proofs
attribute [local irreducible] wpList wpQuiet wpS Code.wp Calls
set_option maxHeartbeats 8000000 in
theorem plays_spec {H:Hp} {w:World} {L:List Res} (hs:St H w (L)) (n:Int) (b_n:IB n) {A_script:Option Addr} {n_script c_script:Nat} (script:(List GAct)) (h_script:Sl kAct H A_script n_script c_script script) (htab:Tab H):Calls Tryd.prog 9 #[.int .i64 n,.slice A_script n_script c_script] w (fun e w' => e = .returned (.bool true)∧St H w' (L)):=by
 obtain ⟨b_n1,b_n2⟩:=b_n
 have:=h_script.len; have:=h_script.le; have:n_script * 48 ≤ 140737488351232:=h_script.bnd
 refine enter (args:=[.int .i64 n,.slice A_script n_script c_script]) (N:=100) Tryd.func9 rfl rfl rfl ?_
 refine c_seq ?_
 refine c_region ?_
 refine st (v:=.bool false) (x_assign .const) ?_
 refine c_nil ?_
 refine n_then ?_
 refine c_seq ?_
 refine c_seq ?_
 refine c_region ?_
 refine st_c cb11 .func (evs0 ) (awake_spec hs  htab) ?_
 rintro e w1 ⟨rfl,hs2⟩
 refine ⟨_,rfl,?_⟩
 refine st (v:=.bool false) (x_not (b:=true) (.tmp rfl rfl)) ?_
 refine st (v:=.bool false) (x_move (.tmp rfl rfl)) ?_
 refine st (v:=.bool false) (x_pick_f (.tmp rfl rfl) .const) ?_
 refine c_nil ?_
 refine n_then ?_
 refine c_cond_f (t:=false) (.tmp rfl rfl) rfl ?_
 refine c_skip ?_
 refine n_then ?_
 refine c_seq ?_
 refine c_region ?_
 refine st (v:=.int .i64 n) (x_move (.tmp rfl rfl)) ?_
 rcases Classical.em (1 ≤ n∧n ≤ 16) with hn | hn
 refine st_c cb12 .func (evs1 (.tmp rfl rfl)) (new_spec hs2 n ⟨b_n1,b_n2⟩ (by omega) (by omega)) ?_
 rintro e w3 ⟨g5,vb6,cb7,vt8,ct9,rfl,ok10,hs4⟩
 refine ⟨_,rfl,?_⟩
 refine st (v:=.tuple #[.pointer (some ⟨g5,0,none⟩),.int .i64 0]) (x_move (.tmp rfl rfl)) ?_
 refine st (v:=.pointer (some ⟨g5,0,none⟩)) (x_extract (.tmp rfl rfl) (i:=0) rfl) ?_
 refine st (v:=.int .i64 0) (x_extract (.tmp rfl rfl) (i:=1) rfl) ?_
 refine st (v:=.pointer (some ⟨g5,0,none⟩)) (x_assign (.tmp rfl rfl)) ?_
 refine st (v:=.int .i64 0) (x_assign (.tmp rfl rfl)) ?_
 refine c_nil ?_
 refine n_then ?_
 refine c_seq ?_
 refine c_seq ?_
 refine c_region ?_
 refine st (v:=.int .i64 n) (x_move (.tmp rfl rfl)) ?_
 refine st (v:=.bool (decide ((n:Int) < 1))) (x_lss (k:=.i64) (a:=n) (b:=1) (.tmp rfl rfl) .const) ?_
 refine st (v:=.bool (decide ((n:Int) < 1))) (x_move (.tmp rfl rfl)) ?_
 have hc13:(decide ((n:Int) < 1)) = false:=(decide_eq_false (by omega))
 refine g_yes (yl (dj:=21) (b:=false) rfl rfl (congrArg Value.bool hc13)) ?_
 refine st (v:=.int .i64 n) (x_move (.tmp rfl rfl)) ?_
 refine g_yes (yl (dj:=21) (b:=false) rfl rfl (congrArg Value.bool hc13)) ?_
 refine st (v:=.bool (decide ((16:Int) < n))) (x_gtr (k:=.i64) (a:=n) (b:=16) (.tmp rfl rfl) .const) ?_
 refine st (v:=.bool (decide ((16:Int) < n))) (x_pick_f (.tmp rfl (congrArg Value.bool hc13)) (.tmp rfl rfl)) ?_
 refine c_nil ?_
 refine n_then ?_
 have hc14:(decide ((16:Int) < n)) = false:=(decide_eq_false (by omega))
 refine c_cond_f (t:=false) (.tmp rfl (congrArg Value.bool hc14)) rfl ?_
 refine c_skip ?_
 refine n_then ?_
 refine c_seq ?_
 refine c_region ?_
 refine st (v:=.int .i64 n) (x_move (.tmp rfl rfl)) ?_
 refine st (v:=.agg (rCells n (.slice none 0 0) (.slice none 0 0) (List.replicate 256 false) 0).toArray) (bl56 (ps:=[(0,.int .i64 n)]) (.cons (.tmp rfl rfl) .nil) (by kernel_rfl)) ?_
 refine st_m (m_box (cs:=(rCells n (.slice none 0 0) (.slice none 0 0) (List.replicate 256 false) 0)) hs4 (v:=.agg (rCells n (.slice none 0 0) (.slice none 0 0) (List.replicate 256 false) 0).toArray) (.tmp rfl rfl) rfl) ?_
 rintro _ w16 ⟨g15,rfl,hs17⟩
 have hs18:=hs17.krowNil 3 kI
 have hs19:=hs18.krowNil 37 kPk
 have ok21:RSOk H (RS.new n) (.slice none 0 0) [] (.slice none 0 0) []:=RSOk.new (by omega) (by omega)
 have hs22:St H _ (row 37 3 (.slice none 0 0) (((RS.new n).ps).length) []::row 3 1 (.slice none 0 0) (((RS.new n).bi).length) []::obj g15 56 (rCells ((RS.new n).n) (.slice none 0 0) (.slice none 0 0) ((RS.new n).df) ((RS.new n).lost))::netG 64 37 3 5 g5 (netNew n) vb6 cb7 vt8 ct9 (((RS.new n).pks 5) ++ (L))):=hs19
 refine st (v:=.pointer (some ⟨g15,0,none⟩)) (x_assign (.tmp rfl rfl)) ?_
 refine c_nil ?_
 refine n_then ?_
 refine c_seq ?_
 refine c_seq ?_
 refine c_region ?_
 refine st (v:=.int .i64 0) (x_assign .const) ?_
 refine c_nil ?_
 refine n_then ?_
 refine c_block ?_
 have hs23:St H _ (obj g15 56 (rCells ((RS.new n).n) (.slice none 0 0) (.slice none 0 0) ((RS.new n).df) ((RS.new n).lost))::row 37 3 (.slice none 0 0) (((RS.new n).ps).length) []::row 3 1 (.slice none 0 0) (((RS.new n).bi).length) []::netG 64 37 3 5 g5 (netNew n) vb6 cb7 vt8 ct9 (((RS.new n).pks 5) ++ (L))):=(((hs22.pick 1 rfl rfl).pick 1 rfl rfl).pick 2 rfl rfl)
 refine c_loop (fun ρ w mm => ∃ (H24:Hp) (i:Nat) (s:NetS) (vbs:Value) (cbs:List Value) (vts:Value) (cts:List Value) (m:RS) (vbm:Value) (cbm:List Value) (vtm:Value) (ctm:List Value),ρ 1 = .slice A_script n_script c_script∧ρ 5 = .pointer (some ⟨g5,0,none⟩)∧ρ 6 = .int .i64 0∧ρ 7 = .pointer (some ⟨g15,0,none⟩)∧ρ 8 = .int .i64 ((i:Nat):Int)∧(H.le H24)∧(NetOk H24 s vbs cbs vts cts)∧(RSOk H24 m vbm cbm vtm ctm)∧(NRel s m ((i:Nat):Int))∧(i ≤ 80)∧St H24 w (obj g15 56 (rCells m.n vbm vtm m.df m.lost)::row 37 3 vbm m.ps.length cbm::row 3 1 vtm m.bi.length ctm::netG 64 37 3 5 g5 s vbs cbs vts cts ((m.pks 5) ++ (L)))∧mm = 80 - i) _ ⟨H,0,netNew n,vb6,cb7,vt8,ct9,(RS.new n),(.slice none 0 0),[],(.slice none 0 0),[],rfl,rfl,rfl,rfl,rfl,(Hp.le.refl _),ok10,ok21,(NRel.new (by omega) (by omega)),(by omega),(((hs23.pick 2 rfl rfl).pick 2 rfl rfl).pick 2 rfl rfl),rfl⟩ ?_
 rintro ρ w mm ⟨H24,i,s,vbs,cbs,vts,cts,m,vbm,cbm,vtm,ctm,hρ26,hρ27,hρ28,hρ29,hρ30,hg25,oks,okm,hrel,hi,hs31,rfl⟩
 refine c_seq ?_
 refine c_seq ?_
 refine c_region ?_
 refine st (v:=.int .i64 ((i:Nat):Int)) (x_move (.tmp rfl hρ30)) ?_
 refine st (v:=.slice A_script n_script c_script) (x_move (.tmp rfl hρ26)) ?_
 refine st (v:=.int .i64 ((n_script:Nat):Int)) (x_len (n:=n_script) Tryd.underlying49 (.tmp rfl rfl)) ?_
 refine st (v:=.bool (decide ((((i:Nat):Int):Int) < ((n_script:Nat):Int)))) (x_lss (k:=.i64) (a:=((i:Nat):Int)) (b:=((n_script:Nat):Int)) (.tmp rfl rfl) (.tmp rfl rfl)) ?_
 refine st (v:=.bool (decide ((((i:Nat):Int):Int) < ((n_script:Nat):Int)))) (x_move (.tmp rfl rfl)) ?_
 rcases Bool.eq_false_or_eq_true (decide ((((i:Nat):Int):Int) < ((n_script:Nat):Int))) with hc32 | hc32
 have hp32:(((i:Nat):Int):Int) < ((n_script:Nat):Int):=of_decide_eq_true hc32
 refine g_yes (yl (dj:=38) (b:=true) rfl rfl (congrArg Value.bool hc32)) ?_
 refine st (v:=.int .i64 ((i:Nat):Int)) (x_move (.tmp rfl hρ30)) ?_
 refine g_yes (yl (dj:=38) (b:=true) rfl rfl (congrArg Value.bool hc32)) ?_
 refine st (v:=.bool (decide ((((i:Nat):Int):Int) < 80))) (x_lss (k:=.i64) (a:=((i:Nat):Int)) (b:=80) (.tmp rfl rfl) .const) ?_
 refine st (v:=.bool (decide ((((i:Nat):Int):Int) < 80))) (x_pick_t (.tmp rfl (congrArg Value.bool hc32)) (.tmp rfl rfl)) ?_
 refine c_nil ?_
 refine n_then ?_
 rcases Bool.eq_false_or_eq_true (decide ((((i:Nat):Int):Int) < 80)) with hc33 | hc33
 have hp33:(((i:Nat):Int):Int) < 80:=of_decide_eq_true hc33
 refine c_cond_t (t:=true) (.tmp rfl (congrArg Value.bool hc33)) rfl ?_
 refine c_skip ?_
 refine n_then ?_
 refine c_seq ?_
 refine c_block ?_
 refine c_seq ?_
 refine c_region ?_
 refine st (v:=.slice A_script n_script c_script) (x_move (.tmp rfl hρ26)) ?_
 refine st (v:=.int .i64 ((i:Nat):Int)) (x_move (.tmp rfl hρ30)) ?_
 obtain ⟨e34,b35,o36,cs37,hx38,hA39,hr40,hat41⟩:=(h_script.mono hg25).get (i:=i) (by omega)
 obtain ⟨A47,n48,c49,rfl,b42,⟨b43,b44⟩,⟨b45,b46⟩,hy50⟩:=hr40
 have:=hy50.len; have:=hy50.bnd; have:=hy50.le
 have hat41x:∀ {w:World} {L:List Res},St H24 w L → At w ⟨b35,o36 + i * 4,none⟩ [.int .u8 ((e34.Kind:Nat):Int),.int .i64 e34.I,.int .i64 e34.K,.slice A47 n48 c49]:=fun h => hat41 h
 refine st (v:=.pointer (some ⟨b35,(o36 + i * 4),none⟩)) (ixo49 (.tmp rfl rfl) hA39 (i:=((i:Nat):Int)) (.tmp rfl rfl) (by omega) (by omega) (by omega)) ?_
 refine st (v:=.agg #[.int .u8 ((e34.Kind:Nat):Int),.int .i64 e34.I,.int .i64 e34.K,.slice A47 n48 c49]) (ld58 (cs:=[.int .u8 ((e34.Kind:Nat):Int),.int .i64 e34.I,.int .i64 e34.K,.slice A47 n48 c49]) (.tmp rfl rfl) ((hat41x hs31).sub 0 rfl) rfl) ?_
 refine st_m (al58 (cs:=[.int .u8 0,.int .i64 0,.int .i64 0,.slice none 0 0]) hs31 rfl) ?_
 rintro _ w52 ⟨g51,rfl,hs54⟩
 refine st_m0 (sto58 (cs':=[.int .u8 ((e34.Kind:Nat):Int),.int .i64 e34.I,.int .i64 e34.K,.slice A47 n48 c49]) (i:=0) hs54 (v:=.agg #[.int .u8 ((e34.Kind:Nat):Int),.int .i64 e34.I,.int .i64 e34.K,.slice A47 n48 c49]) (.tmp rfl rfl) (.tmp rfl rfl) rfl (Nat.le_of_ble_eq_true rfl) (oneA rfl) rfl) ?_
 rintro w55 hs57
 refine c_nil ?_
 refine n_then ?_
 refine c_seq ?_
 refine t_region (L:=obj g51 58 [.int .u8 ((e34.Kind:Nat):Int),.int .i64 e34.I,.int .i64 e34.K,.slice A47 n48 c49]::obj g15 56 (rCells m.n vbm vtm m.df m.lost)::row 37 3 vbm m.ps.length cbm::row 3 1 vtm m.bi.length ctm::netG 64 37 3 5 g5 s vbs cbs vts cts ((m.pks 5) ++ (L))) (L':=obj g51 58 [.int .u8 ((e34.Kind:Nat):Int),.int .i64 e34.I,.int .i64 e34.K,.slice A47 n48 c49]::obj g15 56 (rCells m.n vbm vtm m.df m.lost)::row 37 3 vbm m.ps.length cbm::row 3 1 vtm m.bi.length ctm::netG 64 37 3 5 g5 s vbs cbs vts cts ((m.pks 5) ++ (L))) (Z:=[3]) (F:=[]) (pl:=(.q 0 (.q 1 (.q 2 (.e 3 (.q 4 (.q 5 (.q 6 (.q 8 (.q 9 (.q 10 (.q 11 (.q 12 (.e 7 (.q 13 (.q 14 (.q 15 (.q 16 (.q 18 (.q 19 (.q 20 (.q 21 (.e 17 (.q 22 (.q 23 (.q 24 (.q 25 (.q 26 (.q 27 (.q 28 (.q 29 (.q 31 (.q 32 (.q 33 (.q 34 (.q 35 (.e 30 (.e 36 (.q 37 (.q 38 (.q 39 (.q 40 (.q 41 (.q 42 (.q 44 (.q 45 (.q 46 (.e 43 (.e 47 (.q 48 (.q 49 .done))))))))))))))))))))))))))))))))))))))))))))))))))) mixed hs57 (fun u hu => hu) (by kernel_rfl) ?_
 intro w58 hs59
 refine t_st (k:=0) (v:=.pointer (some ⟨g5,0,none⟩)) rfl rfl (fun w hs => (x_move (.tmp rfl hρ27))) ?_
 refine t_st (k:=1) (v:=.pointer (some ⟨g15,0,none⟩)) rfl rfl (fun w hs => (x_move (.tmp rfl hρ29))) ?_
 refine t_st (k:=2) (v:=.agg #[.int .u8 ((e34.Kind:Nat):Int),.int .i64 e34.I,.int .i64 e34.K,.slice A47 n48 c49]) rfl rfl (fun w hs => (ld58 (cs:=[.int .u8 ((e34.Kind:Nat):Int),.int .i64 e34.I,.int .i64 e34.K,.slice A47 n48 c49]) (.tmp rfl rfl) (hs.at_ 0 rfl (0) rfl) rfl)) ?_
 refine t_eff (k:=3) rfl ?_
 have hs60:St H24 _ (row 3 1 vtm m.bi.length ctm::obj g51 58 [.int .u8 ((e34.Kind:Nat):Int),.int .i64 e34.I,.int .i64 e34.K,.slice A47 n48 c49]::obj g15 56 (rCells m.n vbm vtm m.df m.lost)::row 37 3 vbm m.ps.length cbm::netG 64 37 3 5 g5 s vbs cbs vts cts ((m.pks 5) ++ (L))):=hs59.pick 3 rfl rfl
 have hs61:St H24 _ (row 37 3 vbm m.ps.length cbm::row 3 1 vtm m.bi.length ctm::obj g51 58 [.int .u8 ((e34.Kind:Nat):Int),.int .i64 e34.I,.int .i64 e34.K,.slice A47 n48 c49]::obj g15 56 (rCells m.n vbm vtm m.df m.lost)::netG 64 37 3 5 g5 s vbs cbs vts cts ((m.pks 5) ++ (L))):=hs60.pick 3 rfl rfl
 have hs62:St H24 _ (obj g15 56 (rCells m.n vbm vtm m.df m.lost)::row 37 3 vbm m.ps.length cbm::row 3 1 vtm m.bi.length ctm::obj g51 58 [.int .u8 ((e34.Kind:Nat):Int),.int .i64 e34.I,.int .i64 e34.K,.slice A47 n48 c49]::netG 64 37 3 5 g5 s vbs cbs vts cts ((m.pks 5) ++ (L))):=hs61.pick 3 rfl rfl
 have hs63:=St.allUp [obj g15 56 (rCells m.n vbm vtm m.df m.lost),row 37 3 vbm m.ps.length cbm,row 3 1 vtm m.bi.length ctm] [obj g51 58 [.int .u8 ((e34.Kind:Nat):Int),.int .i64 e34.I,.int .i64 e34.K,.slice A47 n48 c49]] hs62
 have hr64:kAct.rep H24 e34 [.int .u8 ((e34.Kind:Nat):Int),.int .i64 e34.I,.int .i64 e34.K,.slice A47 n48 c49]:=⟨A47,n48,c49,rfl,b42,⟨b43,b44⟩,⟨b45,b46⟩,hy50⟩
 refine st_c cb25 .func (evs3 (.tmp rfl rfl) (.tmp rfl rfl) (.tmp rfl rfl)) (do_spec (t:=s) (m:=m) (c:=((i:Nat):Int)) hs63 oks okm e34 hr64 hrel (by omega)) ?_
 rintro e w81 ⟨H65,nt66,vb67,cb68,vt69,ct70,nr71,vb72,cb73,vt74,ct75,hle76,rfl,ok77,ok78,hrel79,hs80⟩
 refine ⟨_,rfl,?_⟩
 have hn1_g15:=ok78.n1
 have hn16_g15:=ok78.n16
 have hlen_g15:=ok78.len
 have hmax_g15:=ok78.max
 have hl0_g15:=ok78.l0
 have hs82:St H65 _ (obj g15 56 (rCells nr71.n vb72 vt74 nr71.df nr71.lost)::row 37 3 vb72 nr71.ps.length cb73::row 3 1 vt74 nr71.bi.length ct75::obj g51 58 [.int .u8 ((e34.Kind:Nat):Int),.int .i64 e34.I,.int .i64 e34.K,.slice A47 n48 c49]::netG 64 37 3 5 g5 nt66 vb67 cb68 vt69 ct70 ((nr71.pks 5) ++ (L))):=St.allDown [obj g15 56 (rCells nr71.n vb72 vt74 nr71.df nr71.lost),row 37 3 vb72 nr71.ps.length cb73,row 3 1 vt74 nr71.bi.length ct75] [obj g51 58 [.int .u8 ((e34.Kind:Nat):Int),.int .i64 e34.I,.int .i64 e34.K,.slice A47 n48 c49]] hs80
 refine t_new (S':=fun u => St H65 u (obj g15 56 (rCells nr71.n vb72 vt74 nr71.df nr71.lost)::row 37 3 vb72 nr71.ps.length cb73::row 3 1 vt74 nr71.bi.length ct75::obj g51 58 [.int .u8 ((e34.Kind:Nat):Int),.int .i64 e34.I,.int .i64 e34.K,.slice A47 n48 c49]::netG 64 37 3 5 g5 nt66 vb67 cb68 vt69 ct70 ((nr71.pks 5) ++ (L)))) rfl hs82 ?_
 refine t_st (k:=4) (v:=.bool false) rfl rfl (fun w hs => (x_not (b:=true) (.tmp rfl rfl))) ?_
 refine t_st (k:=5) (v:=.bool false) rfl rfl (fun w hs => (x_move (.tmp rfl rfl))) ?_
 refine t_yes (k:=6) (v:=.pointer (some ⟨g5,0,none⟩)) rfl rfl (yl (dj:=53) (b:=false) rfl rfl rfl) (fun w hs => (x_move (.tmp rfl hρ27))) ?_
 refine t_yes (k:=8) (v:=.pointer (some ⟨g15,0,none⟩)) rfl rfl (yl (dj:=53) (b:=false) rfl rfl rfl) (fun w hs => (x_move (.tmp rfl hρ29))) ?_
 refine t_yes (k:=9) (v:=.pointer (some ⟨g15,0,none⟩)) rfl rfl (yl (dj:=53) (b:=false) rfl rfl rfl) (fun w hs => (x_nilCheck (.tmp rfl rfl))) ?_
 refine t_yes (k:=10) (v:=.pointer (some ⟨g15,0 + 1,none⟩)) rfl rfl (yl (dj:=53) (b:=false) rfl rfl rfl) (fun w hs => (fa56_1 (.tmp rfl rfl))) ?_
 refine t_yes (k:=11) (v:=vb72) rfl rfl (yl (dj:=53) (b:=false) rfl rfl rfl) (fun w hs => (ld51 (.tmp rfl rfl) (hs.cell 0 rfl (0 + 1) rfl))) ?_
 obtain ⟨A83,c84,hv85,hc86⟩:=ok78.okb.slice
 refine t_yes (k:=12) (v:=.int .i64 ((nr71.ps.length:Nat):Int)) rfl rfl (yl (dj:=53) (b:=false) rfl rfl rfl) (fun w hs => (x_len (n:=nr71.ps.length) Tryd.underlying51 (.tmp rfl hv85))) ?_
 refine t_eff (k:=7) rfl ?_
 refine g_yes (yl (dj:=53) (b:=false) rfl rfl rfl) ?_
 have hs87:St H65 _ (netG 64 37 3 5 g5 nt66 vb67 cb68 vt69 ct70 (obj g15 56 (rCells nr71.n vb72 vt74 nr71.df nr71.lost)::row 37 3 vb72 nr71.ps.length cb73::row 3 1 vt74 nr71.bi.length ct75::obj g51 58 [.int .u8 ((e34.Kind:Nat):Int),.int .i64 e34.I,.int .i64 e34.K,.slice A47 n48 c49]::(nr71.pks 5) ++ (L))):=St.netUp [obj g15 56 (rCells nr71.n vb72 vt74 nr71.df nr71.lost),row 37 3 vb72 nr71.ps.length cb73,row 3 1 vt74 nr71.bi.length ct75,obj g51 58 [.int .u8 ((e34.Kind:Nat):Int),.int .i64 e34.I,.int .i64 e34.K,.slice A47 n48 c49]] hs82
 refine st_c cb18 .func (evs1 (.tmp rfl rfl)) (len_spec hs87 ok77 ) ?_
 rintro e w88 ⟨rfl,hs89⟩
 refine ⟨_,rfl,?_⟩
 have hs90:St H65 _ (obj g15 56 (rCells nr71.n vb72 vt74 nr71.df nr71.lost)::row 37 3 vb72 nr71.ps.length cb73::row 3 1 vt74 nr71.bi.length ct75::obj g51 58 [.int .u8 ((e34.Kind:Nat):Int),.int .i64 e34.I,.int .i64 e34.K,.slice A47 n48 c49]::netG 64 37 3 5 g5 nt66 vb67 cb68 vt69 ct70 ((nr71.pks 5) ++ (L))):=St.netDown [obj g15 56 (rCells nr71.n vb72 vt74 nr71.df nr71.lost),row 37 3 vb72 nr71.ps.length cb73,row 3 1 vt74 nr71.bi.length ct75,obj g51 58 [.int .u8 ((e34.Kind:Nat):Int),.int .i64 e34.I,.int .i64 e34.K,.slice A47 n48 c49]] hs89
 refine t_on (S':=fun u => St H65 u (obj g15 56 (rCells nr71.n vb72 vt74 nr71.df nr71.lost)::row 37 3 vb72 nr71.ps.length cb73::row 3 1 vt74 nr71.bi.length ct75::obj g51 58 [.int .u8 ((e34.Kind:Nat):Int),.int .i64 e34.I,.int .i64 e34.K,.slice A47 n48 c49]::netG 64 37 3 5 g5 nt66 vb67 cb68 vt69 ct70 ((nr71.pks 5) ++ (L)))) (fun u hu => hu) hs90 ?_
 refine t_yes (k:=13) (v:=.bool (decide ((((nt66.ps.length:Nat):Int):Int) ≠ ((nr71.ps.length:Nat):Int)))) rfl rfl (yl (dj:=53) (b:=false) rfl rfl rfl) (fun w hs => (x_neq (k:=.i64) (a:=((nt66.ps.length:Nat):Int)) (b:=((nr71.ps.length:Nat):Int)) (.tmp rfl rfl) (.tmp rfl rfl))) ?_
 refine t_st (k:=14) (v:=.bool (decide ((((nt66.ps.length:Nat):Int):Int) ≠ ((nr71.ps.length:Nat):Int)))) rfl rfl (fun w hs => (x_pick_f (.tmp rfl rfl) (.tmp rfl rfl))) ?_
 refine t_st (k:=15) (v:=.bool (decide ((((nt66.ps.length:Nat):Int):Int) ≠ ((nr71.ps.length:Nat):Int)))) rfl rfl (fun w hs => (x_move (.tmp rfl rfl))) ?_
 have hc91:(decide ((((nt66.ps.length:Nat):Int):Int) ≠ ((nr71.ps.length:Nat):Int))) = false:=(decide_eq_false (fun h => h (by rw [hrel79.len])))
 refine t_yes (k:=16) (v:=.pointer (some ⟨g5,0,none⟩)) rfl rfl (yl (dj:=63) (b:=false) rfl rfl (congrArg Value.bool hc91)) (fun w hs => (x_move (.tmp rfl hρ27))) ?_
 refine t_yes (k:=18) (v:=.pointer (some ⟨g15,0,none⟩)) rfl rfl (yl (dj:=63) (b:=false) rfl rfl (congrArg Value.bool hc91)) (fun w hs => (x_move (.tmp rfl hρ29))) ?_
 refine t_yes (k:=19) (v:=.pointer (some ⟨g15,0,none⟩)) rfl rfl (yl (dj:=63) (b:=false) rfl rfl (congrArg Value.bool hc91)) (fun w hs => (x_nilCheck (.tmp rfl rfl))) ?_
 refine t_yes (k:=20) (v:=.pointer (some ⟨g15,0 + 259,none⟩)) rfl rfl (yl (dj:=63) (b:=false) rfl rfl (congrArg Value.bool hc91)) (fun w hs => (fa56_4 (.tmp rfl rfl))) ?_
 refine t_yes (k:=21) (v:=.int .i64 nr71.lost) rfl rfl (yl (dj:=63) (b:=false) rfl rfl (congrArg Value.bool hc91)) (fun w hs => (ld3 (.tmp rfl rfl) (hs.cell 0 rfl (0 + 259) (rn_lost ok78.dl)))) ?_
 refine t_eff (k:=17) rfl ?_
 refine g_yes (yl (dj:=63) (b:=false) rfl rfl (congrArg Value.bool hc91)) ?_
 have hs92:St H65 _ (netG 64 37 3 5 g5 nt66 vb67 cb68 vt69 ct70 (obj g15 56 (rCells nr71.n vb72 vt74 nr71.df nr71.lost)::row 37 3 vb72 nr71.ps.length cb73::row 3 1 vt74 nr71.bi.length ct75::obj g51 58 [.int .u8 ((e34.Kind:Nat):Int),.int .i64 e34.I,.int .i64 e34.K,.slice A47 n48 c49]::(nr71.pks 5) ++ (L))):=St.netUp [obj g15 56 (rCells nr71.n vb72 vt74 nr71.df nr71.lost),row 37 3 vb72 nr71.ps.length cb73,row 3 1 vt74 nr71.bi.length ct75,obj g51 58 [.int .u8 ((e34.Kind:Nat):Int),.int .i64 e34.I,.int .i64 e34.K,.slice A47 n48 c49]] hs90
 refine st_c cb23 .func (evs1 (.tmp rfl rfl)) (lost_spec hs92 ok77 ) ?_
 rintro e w93 ⟨rfl,hs94⟩
 refine ⟨_,rfl,?_⟩
 have hs95:St H65 _ (obj g15 56 (rCells nr71.n vb72 vt74 nr71.df nr71.lost)::row 37 3 vb72 nr71.ps.length cb73::row 3 1 vt74 nr71.bi.length ct75::obj g51 58 [.int .u8 ((e34.Kind:Nat):Int),.int .i64 e34.I,.int .i64 e34.K,.slice A47 n48 c49]::netG 64 37 3 5 g5 nt66 vb67 cb68 vt69 ct70 ((nr71.pks 5) ++ (L))):=St.netDown [obj g15 56 (rCells nr71.n vb72 vt74 nr71.df nr71.lost),row 37 3 vb72 nr71.ps.length cb73,row 3 1 vt74 nr71.bi.length ct75,obj g51 58 [.int .u8 ((e34.Kind:Nat):Int),.int .i64 e34.I,.int .i64 e34.K,.slice A47 n48 c49]] hs94
 refine t_on (S':=fun u => St H65 u (obj g15 56 (rCells nr71.n vb72 vt74 nr71.df nr71.lost)::row 37 3 vb72 nr71.ps.length cb73::row 3 1 vt74 nr71.bi.length ct75::obj g51 58 [.int .u8 ((e34.Kind:Nat):Int),.int .i64 e34.I,.int .i64 e34.K,.slice A47 n48 c49]::netG 64 37 3 5 g5 nt66 vb67 cb68 vt69 ct70 ((nr71.pks 5) ++ (L)))) (fun u hu => hu) hs95 ?_
 refine t_yes (k:=22) (v:=.bool (decide ((nt66.lost:Int) ≠ nr71.lost))) rfl rfl (yl (dj:=63) (b:=false) rfl rfl (congrArg Value.bool hc91)) (fun w hs => (x_neq (k:=.i64) (a:=nt66.lost) (b:=nr71.lost) (.tmp rfl rfl) (.tmp rfl rfl))) ?_
 refine t_st (k:=23) (v:=.bool (decide ((nt66.lost:Int) ≠ nr71.lost))) rfl rfl (fun w hs => (x_pick_f (.tmp rfl (congrArg Value.bool hc91)) (.tmp rfl rfl))) ?_
 refine t_st (k:=24) (v:=.bool (decide ((nt66.lost:Int) ≠ nr71.lost))) rfl rfl (fun w hs => (x_move (.tmp rfl rfl))) ?_
 have hc96:(decide ((nt66.lost:Int) ≠ nr71.lost)) = false:=(decide_eq_false (fun h => h hrel79.lost))
 refine t_yes (k:=25) (v:=.pointer (some ⟨g5,0,none⟩)) rfl rfl (yl (dj:=72) (b:=false) rfl rfl (congrArg Value.bool hc96)) (fun w hs => (x_move (.tmp rfl hρ27))) ?_
 refine t_yes (k:=26) (v:=.pointer (some ⟨g51,0 + 1,none⟩)) rfl rfl (yl (dj:=72) (b:=false) rfl rfl (congrArg Value.bool hc96)) (fun w hs => (fa58_1 (.tmp rfl rfl))) ?_
 refine t_yes (k:=27) (v:=.int .i64 e34.I) rfl rfl (yl (dj:=72) (b:=false) rfl rfl (congrArg Value.bool hc96)) (fun w hs => (ld3 (.tmp rfl rfl) (hs.cell 3 rfl (0 + 1) rfl))) ?_
 refine t_yes (k:=28) (v:=.pointer (some ⟨g51,0 + 2,none⟩)) rfl rfl (yl (dj:=72) (b:=false) rfl rfl (congrArg Value.bool hc96)) (fun w hs => (fa58_2 (.tmp rfl rfl))) ?_
 refine t_yes (k:=29) (v:=.int .i64 e34.K) rfl rfl (yl (dj:=72) (b:=false) rfl rfl (congrArg Value.bool hc96)) (fun w hs => (ld3 (.tmp rfl rfl) (hs.cell 3 rfl (0 + 2) rfl))) ?_
 refine t_yes (k:=31) (v:=.pointer (some ⟨g15,0,none⟩)) rfl rfl (yl (dj:=72) (b:=false) rfl rfl (congrArg Value.bool hc96)) (fun w hs => (x_move (.tmp rfl hρ29))) ?_
 refine t_yes (k:=32) (v:=.pointer (some ⟨g51,0 + 1,none⟩)) rfl rfl (yl (dj:=72) (b:=false) rfl rfl (congrArg Value.bool hc96)) (fun w hs => (fa58_1 (.tmp rfl rfl))) ?_
 refine t_yes (k:=33) (v:=.int .i64 e34.I) rfl rfl (yl (dj:=72) (b:=false) rfl rfl (congrArg Value.bool hc96)) (fun w hs => (ld3 (.tmp rfl rfl) (hs.cell 3 rfl (0 + 1) rfl))) ?_
 refine t_yes (k:=34) (v:=.pointer (some ⟨g51,0 + 2,none⟩)) rfl rfl (yl (dj:=72) (b:=false) rfl rfl (congrArg Value.bool hc96)) (fun w hs => (fa58_2 (.tmp rfl rfl))) ?_
 refine t_yes (k:=35) (v:=.int .i64 e34.K) rfl rfl (yl (dj:=72) (b:=false) rfl rfl (congrArg Value.bool hc96)) (fun w hs => (ld3 (.tmp rfl rfl) (hs.cell 3 rfl (0 + 2) rfl))) ?_
 refine t_eff (k:=30) rfl ?_
 refine g_yes (yl (dj:=72) (b:=false) rfl rfl (congrArg Value.bool hc96)) ?_
 have hs97:St H65 _ (netG 64 37 3 5 g5 nt66 vb67 cb68 vt69 ct70 (obj g15 56 (rCells nr71.n vb72 vt74 nr71.df nr71.lost)::row 37 3 vb72 nr71.ps.length cb73::row 3 1 vt74 nr71.bi.length ct75::obj g51 58 [.int .u8 ((e34.Kind:Nat):Int),.int .i64 e34.I,.int .i64 e34.K,.slice A47 n48 c49]::(nr71.pks 5) ++ (L))):=St.netUp [obj g15 56 (rCells nr71.n vb72 vt74 nr71.df nr71.lost),row 37 3 vb72 nr71.ps.length cb73,row 3 1 vt74 nr71.bi.length ct75,obj g51 58 [.int .u8 ((e34.Kind:Nat):Int),.int .i64 e34.I,.int .i64 e34.K,.slice A47 n48 c49]] hs95
 refine st_c cb15 .func (evs3 (.tmp rfl rfl) (.tmp rfl rfl) (.tmp rfl rfl)) (hear_spec hs97 ok77 e34.I ⟨b43,b44⟩ e34.K ⟨b45,b46⟩ ) ?_
 rintro e w98 ⟨rfl,hs99⟩
 refine ⟨_,rfl,?_⟩
 have hs100:St H65 _ (obj g15 56 (rCells nr71.n vb72 vt74 nr71.df nr71.lost)::row 37 3 vb72 nr71.ps.length cb73::row 3 1 vt74 nr71.bi.length ct75::obj g51 58 [.int .u8 ((e34.Kind:Nat):Int),.int .i64 e34.I,.int .i64 e34.K,.slice A47 n48 c49]::netG 64 37 3 5 g5 nt66 vb67 cb68 vt69 ct70 ((nr71.pks 5) ++ (L))):=St.netDown [obj g15 56 (rCells nr71.n vb72 vt74 nr71.df nr71.lost),row 37 3 vb72 nr71.ps.length cb73,row 3 1 vt74 nr71.bi.length ct75,obj g51 58 [.int .u8 ((e34.Kind:Nat):Int),.int .i64 e34.I,.int .i64 e34.K,.slice A47 n48 c49]] hs99
 refine t_on (S':=fun u => St H65 u (obj g15 56 (rCells nr71.n vb72 vt74 nr71.df nr71.lost)::row 37 3 vb72 nr71.ps.length cb73::row 3 1 vt74 nr71.bi.length ct75::obj g51 58 [.int .u8 ((e34.Kind:Nat):Int),.int .i64 e34.I,.int .i64 e34.K,.slice A47 n48 c49]::netG 64 37 3 5 g5 nt66 vb67 cb68 vt69 ct70 ((nr71.pks 5) ++ (L)))) (fun u hu => hu) hs100 ?_
 refine t_eff (k:=36) rfl ?_
 refine g_yes (yl (dj:=72) (b:=false) rfl rfl (congrArg Value.bool hc96)) ?_
 have hs101:St H65 _ (row 3 1 vt74 nr71.bi.length ct75::obj g15 56 (rCells nr71.n vb72 vt74 nr71.df nr71.lost)::row 37 3 vb72 nr71.ps.length cb73::obj g51 58 [.int .u8 ((e34.Kind:Nat):Int),.int .i64 e34.I,.int .i64 e34.K,.slice A47 n48 c49]::netG 64 37 3 5 g5 nt66 vb67 cb68 vt69 ct70 ((nr71.pks 5) ++ (L))):=hs100.pick 2 rfl rfl
 have hs102:St H65 _ (row 37 3 vb72 nr71.ps.length cb73::row 3 1 vt74 nr71.bi.length ct75::obj g15 56 (rCells nr71.n vb72 vt74 nr71.df nr71.lost)::obj g51 58 [.int .u8 ((e34.Kind:Nat):Int),.int .i64 e34.I,.int .i64 e34.K,.slice A47 n48 c49]::netG 64 37 3 5 g5 nt66 vb67 cb68 vt69 ct70 ((nr71.pks 5) ++ (L))):=hs101.pick 2 rfl rfl
 have hs103:St H65 _ (obj g15 56 (rCells nr71.n vb72 vt74 nr71.df nr71.lost)::row 37 3 vb72 nr71.ps.length cb73::row 3 1 vt74 nr71.bi.length ct75::obj g51 58 [.int .u8 ((e34.Kind:Nat):Int),.int .i64 e34.I,.int .i64 e34.K,.slice A47 n48 c49]::netG 64 37 3 5 g5 nt66 vb67 cb68 vt69 ct70 ((nr71.pks 5) ++ (L))):=hs102.pick 2 rfl rfl
 refine st_c cb26 .func (evs3 (.tmp rfl rfl) (.tmp rfl rfl) (.tmp rfl rfl)) (rhear_spec hs103 (m:=nr71) (RSOk.any ok78) e34.I ⟨b43,b44⟩ e34.K ⟨b45,b46⟩ ) ?_
 rintro e w104 ⟨rfl,hs105⟩
 refine ⟨_,rfl,?_⟩
 refine t_on (S':=fun u => St H65 u (obj g15 56 (rCells nr71.n vb72 vt74 nr71.df nr71.lost)::row 37 3 vb72 nr71.ps.length cb73::row 3 1 vt74 nr71.bi.length ct75::obj g51 58 [.int .u8 ((e34.Kind:Nat):Int),.int .i64 e34.I,.int .i64 e34.K,.slice A47 n48 c49]::netG 64 37 3 5 g5 nt66 vb67 cb68 vt69 ct70 ((nr71.pks 5) ++ (L)))) (fun u hu => hu) hs105 ?_
 refine t_yes (k:=37) (v:=.bool ((nt66.hears e34.I e34.K) != (nr71.hears e34.I e34.K))) rfl rfl (yl (dj:=72) (b:=false) rfl rfl (congrArg Value.bool hc96)) (fun w hs => (x_neqB Tryd.underlying4 (.tmp rfl rfl) (.tmp rfl rfl))) ?_
 refine t_st (k:=38) (v:=.bool ((nt66.hears e34.I e34.K) != (nr71.hears e34.I e34.K))) rfl rfl (fun w hs => (x_pick_f (.tmp rfl (congrArg Value.bool hc96)) (.tmp rfl rfl))) ?_
 refine t_st (k:=39) (v:=.bool ((nt66.hears e34.I e34.K) != (nr71.hears e34.I e34.K))) rfl rfl (fun w hs => (x_move (.tmp rfl rfl))) ?_
 have hc106:((nt66.hears e34.I e34.K) != (nr71.hears e34.I e34.K)) = false:=(by rw [hrel79.hears]; simp)
 refine t_yes (k:=40) (v:=.pointer (some ⟨g5,0,none⟩)) rfl rfl (yl (dj:=87) (b:=false) rfl rfl (congrArg Value.bool hc106)) (fun w hs => (x_move (.tmp rfl hρ27))) ?_
 refine t_yes (k:=41) (v:=.pointer (some ⟨g51,0 + 1,none⟩)) rfl rfl (yl (dj:=87) (b:=false) rfl rfl (congrArg Value.bool hc106)) (fun w hs => (fa58_1 (.tmp rfl rfl))) ?_
 refine t_yes (k:=42) (v:=.int .i64 e34.I) rfl rfl (yl (dj:=87) (b:=false) rfl rfl (congrArg Value.bool hc106)) (fun w hs => (ld3 (.tmp rfl rfl) (hs.cell 3 rfl (0 + 1) rfl))) ?_
 refine t_yes (k:=44) (v:=.pointer (some ⟨g15,0,none⟩)) rfl rfl (yl (dj:=87) (b:=false) rfl rfl (congrArg Value.bool hc106)) (fun w hs => (x_move (.tmp rfl hρ29))) ?_
 refine t_yes (k:=45) (v:=.pointer (some ⟨g51,0 + 1,none⟩)) rfl rfl (yl (dj:=87) (b:=false) rfl rfl (congrArg Value.bool hc106)) (fun w hs => (fa58_1 (.tmp rfl rfl))) ?_
 refine t_yes (k:=46) (v:=.int .i64 e34.I) rfl rfl (yl (dj:=87) (b:=false) rfl rfl (congrArg Value.bool hc106)) (fun w hs => (ld3 (.tmp rfl rfl) (hs.cell 3 rfl (0 + 1) rfl))) ?_
 refine t_eff (k:=43) rfl ?_
 refine g_yes (yl (dj:=87) (b:=false) rfl rfl (congrArg Value.bool hc106)) ?_
 have hs107:St H65 _ (netG 64 37 3 5 g5 nt66 vb67 cb68 vt69 ct70 (obj g15 56 (rCells nr71.n vb72 vt74 nr71.df nr71.lost)::row 37 3 vb72 nr71.ps.length cb73::row 3 1 vt74 nr71.bi.length ct75::obj g51 58 [.int .u8 ((e34.Kind:Nat):Int),.int .i64 e34.I,.int .i64 e34.K,.slice A47 n48 c49]::(nr71.pks 5) ++ (L))):=St.netUp [obj g15 56 (rCells nr71.n vb72 vt74 nr71.df nr71.lost),row 37 3 vb72 nr71.ps.length cb73,row 3 1 vt74 nr71.bi.length ct75,obj g51 58 [.int .u8 ((e34.Kind:Nat):Int),.int .i64 e34.I,.int .i64 e34.K,.slice A47 n48 c49]] hs105
 refine st_c cb14 .func (evs2 (.tmp rfl rfl) (.tmp rfl rfl)) (class_spec hs107 ok77 e34.I ⟨b43,b44⟩ (htab.mono (hg25.trans hle76))) ?_
 rintro e w108 ⟨rfl,hs109⟩
 refine ⟨_,rfl,?_⟩
 have hs110:St H65 _ (obj g15 56 (rCells nr71.n vb72 vt74 nr71.df nr71.lost)::row 37 3 vb72 nr71.ps.length cb73::row 3 1 vt74 nr71.bi.length ct75::obj g51 58 [.int .u8 ((e34.Kind:Nat):Int),.int .i64 e34.I,.int .i64 e34.K,.slice A47 n48 c49]::netG 64 37 3 5 g5 nt66 vb67 cb68 vt69 ct70 ((nr71.pks 5) ++ (L))):=St.netDown [obj g15 56 (rCells nr71.n vb72 vt74 nr71.df nr71.lost),row 37 3 vb72 nr71.ps.length cb73,row 3 1 vt74 nr71.bi.length ct75,obj g51 58 [.int .u8 ((e34.Kind:Nat):Int),.int .i64 e34.I,.int .i64 e34.K,.slice A47 n48 c49]] hs109
 refine t_on (S':=fun u => St H65 u (obj g15 56 (rCells nr71.n vb72 vt74 nr71.df nr71.lost)::row 37 3 vb72 nr71.ps.length cb73::row 3 1 vt74 nr71.bi.length ct75::obj g51 58 [.int .u8 ((e34.Kind:Nat):Int),.int .i64 e34.I,.int .i64 e34.K,.slice A47 n48 c49]::netG 64 37 3 5 g5 nt66 vb67 cb68 vt69 ct70 ((nr71.pks 5) ++ (L)))) (fun u hu => hu) hs110 ?_
 refine t_eff (k:=47) rfl ?_
 refine g_yes (yl (dj:=87) (b:=false) rfl rfl (congrArg Value.bool hc106)) ?_
 have hs111:St H65 _ (row 3 1 vt74 nr71.bi.length ct75::obj g15 56 (rCells nr71.n vb72 vt74 nr71.df nr71.lost)::row 37 3 vb72 nr71.ps.length cb73::obj g51 58 [.int .u8 ((e34.Kind:Nat):Int),.int .i64 e34.I,.int .i64 e34.K,.slice A47 n48 c49]::netG 64 37 3 5 g5 nt66 vb67 cb68 vt69 ct70 ((nr71.pks 5) ++ (L))):=hs110.pick 2 rfl rfl
 have hs112:St H65 _ (row 37 3 vb72 nr71.ps.length cb73::row 3 1 vt74 nr71.bi.length ct75::obj g15 56 (rCells nr71.n vb72 vt74 nr71.df nr71.lost)::obj g51 58 [.int .u8 ((e34.Kind:Nat):Int),.int .i64 e34.I,.int .i64 e34.K,.slice A47 n48 c49]::netG 64 37 3 5 g5 nt66 vb67 cb68 vt69 ct70 ((nr71.pks 5) ++ (L))):=hs111.pick 2 rfl rfl
 have hs113:St H65 _ (obj g15 56 (rCells nr71.n vb72 vt74 nr71.df nr71.lost)::row 37 3 vb72 nr71.ps.length cb73::row 3 1 vt74 nr71.bi.length ct75::obj g51 58 [.int .u8 ((e34.Kind:Nat):Int),.int .i64 e34.I,.int .i64 e34.K,.slice A47 n48 c49]::netG 64 37 3 5 g5 nt66 vb67 cb68 vt69 ct70 ((nr71.pks 5) ++ (L))):=hs112.pick 2 rfl rfl
 refine st_c cb27 .func (evs2 (.tmp rfl rfl) (.tmp rfl rfl)) (rclass_spec hs113 (m:=nr71) (RSOk.any ok78) e34.I ⟨b43,b44⟩ ) ?_
 rintro e w114 ⟨rfl,hs115⟩
 refine ⟨_,rfl,?_⟩
 refine t_on (S':=fun u => St H65 u (obj g15 56 (rCells nr71.n vb72 vt74 nr71.df nr71.lost)::row 37 3 vb72 nr71.ps.length cb73::row 3 1 vt74 nr71.bi.length ct75::obj g51 58 [.int .u8 ((e34.Kind:Nat):Int),.int .i64 e34.I,.int .i64 e34.K,.slice A47 n48 c49]::netG 64 37 3 5 g5 nt66 vb67 cb68 vt69 ct70 ((nr71.pks 5) ++ (L)))) (fun u hu => hu) hs115 ?_
 refine t_yes (k:=48) (v:=.bool (decide (((((nt66.cls e34.I):Nat):Int):Int) ≠ (((nr71.cls e34.I):Nat):Int)))) rfl rfl (yl (dj:=87) (b:=false) rfl rfl (congrArg Value.bool hc106)) (fun w hs => (x_neq (k:=.u16) (a:=(((nt66.cls e34.I):Nat):Int)) (b:=(((nr71.cls e34.I):Nat):Int)) (.tmp rfl rfl) (.tmp rfl rfl))) ?_
 refine t_st (k:=49) (v:=.bool (decide (((((nt66.cls e34.I):Nat):Int):Int) ≠ (((nr71.cls e34.I):Nat):Int)))) rfl rfl (fun w hs => (x_pick_f (.tmp rfl (congrArg Value.bool hc106)) (.tmp rfl rfl))) ?_
 refine t_nil ?_
 refine n_then ?_
 have hc116:(decide (((((nt66.cls e34.I):Nat):Int):Int) ≠ (((nr71.cls e34.I):Nat):Int))) = false:=(decide_eq_false (fun h => h (by rw [hrel79.cls])))
 refine c_cond_f (t:=false) (.tmp rfl (congrArg Value.bool hc116)) rfl ?_
 refine c_skip ?_
 refine n_block ?_
 refine n_then ?_
 refine c_region ?_
 refine st (v:=.int .i64 ((i:Nat):Int)) (x_move (.tmp rfl hρ30)) ?_
 refine st (v:=.int .i64 (((i + 1):Nat):Int)) (x_add (k:=.i64) (a:=((i:Nat):Int)) (b:=1) (.tmp rfl rfl) .const ((w64 (by omega) (by omega)).trans (by omega))) ?_
 refine st (v:=.int .i64 (((i + 1):Nat):Int)) (x_assign (.tmp rfl rfl)) ?_
 refine c_nil ?_
 refine n_then ⟨_,_,rfl,?_,H65,(i + 1),nt66,vb67,cb68,vt69,ct70,nr71,vb72,cb73,vt74,ct75,hρ26,hρ27,hρ28,hρ29,rfl,(hg25.trans hle76),ok77,ok78,hrel79,(by omega),((((hs115.pick 3 rfl rfl).drop.pick 2 rfl rfl).pick 2 rfl rfl).pick 2 rfl rfl),rfl⟩
 omega
 have hp33:¬ ((((i:Nat):Int):Int) < 80):=of_decide_eq_false hc33
 refine c_cond_f (t:=false) (.tmp rfl (congrArg Value.bool hc33)) rfl ?_
 refine c_exit ?_
 refine x_then ?_
 refine x_then ?_
 refine x_here ?_
 refine n_then ?_
 refine c_seq ?_
 refine c_region ?_
 refine st (v:=.int .i64 0) (x_move (.tmp rfl hρ28)) ?_
 refine st (v:=.bool true) (x_eql (k:=.i64) (a:=0) (b:=0) (.tmp rfl rfl) .const) ?_
 refine st (v:=.bool true) (x_assign (.tmp rfl rfl)) ?_
 refine c_nil ?_
 refine n_then ?_
 refine c_ret ?_
 refine leave_ret (res_one (v:=.bool true) rfl (.mk rfl rfl)) ?_
 exact ⟨rfl,((St.dropG [] hs31.drop.drop.drop.netDrop).weaken hg25)⟩
 have hp32:¬ ((((i:Nat):Int):Int) < ((n_script:Nat):Int)):=of_decide_eq_false hc32
 refine g_no (yl (dj:=38) (b:=false) rfl rfl (congrArg Value.bool hc32)) rfl ?_
 refine g_no (yl (dj:=38) (b:=false) rfl rfl (congrArg Value.bool hc32)) rfl ?_
 refine st (v:=.bool false) (x_pick_f (.tmp rfl (congrArg Value.bool hc32)) .const) ?_
 refine c_nil ?_
 refine n_then ?_
 refine c_cond_f (t:=false) (.tmp rfl rfl) rfl ?_
 refine c_exit ?_
 refine x_then ?_
 refine x_then ?_
 refine x_here ?_
 refine n_then ?_
 refine c_seq ?_
 refine c_region ?_
 refine st (v:=.int .i64 0) (x_move (.tmp rfl hρ28)) ?_
 refine st (v:=.bool true) (x_eql (k:=.i64) (a:=0) (b:=0) (.tmp rfl rfl) .const) ?_
 refine st (v:=.bool true) (x_assign (.tmp rfl rfl)) ?_
 refine c_nil ?_
 refine n_then ?_
 refine c_ret ?_
 refine leave_ret (res_one (v:=.bool true) rfl (.mk rfl rfl)) ?_
 exact ⟨rfl,((St.dropG [] hs31.drop.drop.drop.netDrop).weaken hg25)⟩
 refine st_c cb12 .func (evs1 (.tmp rfl rfl)) (new_none hs2 n ⟨b_n1,b_n2⟩ (by omega)) ?_
 rintro e w117 ⟨rfl,hs118⟩
 refine ⟨_,rfl,?_⟩
 refine st (v:=.tuple #[.pointer none,.int .i64 1]) (x_move (.tmp rfl rfl)) ?_
 refine st (v:=.pointer none) (x_extract (.tmp rfl rfl) (i:=0) rfl) ?_
 refine st (v:=.int .i64 1) (x_extract (.tmp rfl rfl) (i:=1) rfl) ?_
 refine st (v:=.pointer none) (x_assign (.tmp rfl rfl)) ?_
 refine st (v:=.int .i64 1) (x_assign (.tmp rfl rfl)) ?_
 refine c_nil ?_
 refine n_then ?_
 refine c_seq ?_
 refine c_seq ?_
 refine c_region ?_
 refine st (v:=.int .i64 n) (x_move (.tmp rfl rfl)) ?_
 refine st (v:=.bool (decide ((n:Int) < 1))) (x_lss (k:=.i64) (a:=n) (b:=1) (.tmp rfl rfl) .const) ?_
 refine st (v:=.bool (decide ((n:Int) < 1))) (x_move (.tmp rfl rfl)) ?_
 rcases Bool.eq_false_or_eq_true (decide ((n:Int) < 1)) with hc119 | hc119
 have hp119:(n:Int) < 1:=of_decide_eq_true hc119
 refine g_no (yl (dj:=21) (b:=true) rfl rfl (congrArg Value.bool hc119)) rfl ?_
 refine g_no (yl (dj:=21) (b:=true) rfl rfl (congrArg Value.bool hc119)) rfl ?_
 refine st (v:=.bool true) (x_pick_t (.tmp rfl (congrArg Value.bool hc119)) .const) ?_
 refine c_nil ?_
 refine n_then ?_
 refine c_cond_t (t:=true) (.tmp rfl rfl) rfl ?_
 refine c_seq ?_
 refine c_region ?_
 refine st (v:=.int .i64 1) (x_move (.tmp rfl rfl)) ?_
 refine st (v:=.bool true) (x_eql (k:=.i64) (a:=1) (b:=1) (.tmp rfl rfl) .const) ?_
 refine st (v:=.bool true) (x_move (.tmp rfl rfl)) ?_
 refine g_yes (yl (dj:=27) (b:=true) rfl rfl rfl) ?_
 refine st (v:=.pointer none) (x_move (.tmp rfl rfl)) ?_
 refine g_yes (yl (dj:=27) (b:=true) rfl rfl rfl) ?_
 refine st (v:=.bool true) (x_eqlP Tryd.underlying24 (.tmp rfl rfl) .const rfl) ?_
 refine st (v:=.bool true) (x_pick_t (.tmp rfl rfl) (.tmp rfl rfl)) ?_
 refine st (v:=.bool true) (x_assign (.tmp rfl rfl)) ?_
 refine c_nil ?_
 refine n_then ?_
 refine c_ret ?_
 refine r_then ?_
 refine leave_ret (res_one (v:=.bool true) rfl (.mk rfl rfl)) ?_
 exact ⟨rfl,hs118⟩
 have hp119:¬ ((n:Int) < 1):=of_decide_eq_false hc119
 refine g_yes (yl (dj:=21) (b:=false) rfl rfl (congrArg Value.bool hc119)) ?_
 refine st (v:=.int .i64 n) (x_move (.tmp rfl rfl)) ?_
 refine g_yes (yl (dj:=21) (b:=false) rfl rfl (congrArg Value.bool hc119)) ?_
 refine st (v:=.bool (decide ((16:Int) < n))) (x_gtr (k:=.i64) (a:=n) (b:=16) (.tmp rfl rfl) .const) ?_
 refine st (v:=.bool (decide ((16:Int) < n))) (x_pick_f (.tmp rfl (congrArg Value.bool hc119)) (.tmp rfl rfl)) ?_
 refine c_nil ?_
 refine n_then ?_
 have hc120:(decide ((16:Int) < n)) = true:=(decide_eq_true (by omega))
 refine c_cond_t (t:=true) (.tmp rfl (congrArg Value.bool hc120)) rfl ?_
 refine c_seq ?_
 refine c_region ?_
 refine st (v:=.int .i64 1) (x_move (.tmp rfl rfl)) ?_
 refine st (v:=.bool true) (x_eql (k:=.i64) (a:=1) (b:=1) (.tmp rfl rfl) .const) ?_
 refine st (v:=.bool true) (x_move (.tmp rfl rfl)) ?_
 refine g_yes (yl (dj:=27) (b:=true) rfl rfl rfl) ?_
 refine st (v:=.pointer none) (x_move (.tmp rfl rfl)) ?_
 refine g_yes (yl (dj:=27) (b:=true) rfl rfl rfl) ?_
 refine st (v:=.bool true) (x_eqlP Tryd.underlying24 (.tmp rfl rfl) .const rfl) ?_
 refine st (v:=.bool true) (x_pick_t (.tmp rfl rfl) (.tmp rfl rfl)) ?_
 refine st (v:=.bool true) (x_assign (.tmp rfl rfl)) ?_
 refine c_nil ?_
 refine n_then ?_
 refine c_ret ?_
 refine r_then ?_
 refine leave_ret (res_one (v:=.bool true) rfl (.mk rfl rfl)) ?_
 exact ⟨rfl,hs118⟩
end Go.Proofs.YtojlmilkdijiaaaDoor
