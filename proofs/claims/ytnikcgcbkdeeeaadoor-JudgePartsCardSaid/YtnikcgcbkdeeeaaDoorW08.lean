/- Steps of the proofs over the functions of this seat, printed by a program (gen.py) and checked by Lean. -/
import Derived.Test.YtnikcgcbkdeeeaaDoorW01
import Derived.Test.YtnikcgcbkdeeeaaDoorW00
import Derived.Test.YtnikcgcbkdeeeaaDoorW07
set_option linter.unusedVariables false
set_option linter.unusedSimpArgs false
namespace Go.Proofs.YtnikcgcbkdeeeaaDoor
open Go Go.FM Go.Proofs
attribute [local irreducible] wpList wpQuiet Code.wp Calls
set_option maxHeartbeats 8000000 in
theorem jparts_law {H:Hp} {w:World} {L:List Res} (hs:St H w (L)) (n:Nat) (b_n:n < 256) {A_runs:Option Addr} {n_runs c_runs:Nat} (runs:(List GRun)) (h_runs:Sl kRun H A_runs n_runs c_runs runs) (who:Nat) (b_who:who < 256) (htab:Tab H):Calls Tryd.prog 8 #[.int .u8 ((n:Nat):Int),.slice A_runs n_runs c_runs,.int .u8 ((who:Nat):Int)] w (fun e w' => e = .returned (.bool true)∧St H w' (L)):=by
 have:=h_runs.len; have:=h_runs.le; have:n_runs * 80 ≤ 140737488351232:=h_runs.bnd
 refine enter (args:=[.int .u8 ((n:Nat):Int),.slice A_runs n_runs c_runs,.int .u8 ((who:Nat):Int)]) (N:=176) Tryd.func8 rfl rfl rfl ?_
 have htl0:(tracesP (1 + (n % 6)) runs).length = 1 + n % 6:=traces_len
 refine c_seq (c_region (st (v:=.bool false) (x_assign .const) ?_))
 refine c_nil (n_then (c_seq (c_seq (c_region (st_c cb10 .func (evs0 ) (awake_spec hs  ) ?_)))))
 rintro e w1 ⟨rfl,hs2⟩
 refine ⟨_,rfl,?_⟩
 refine st (v:=.bool false) (x_not (b:=true) (.tmp rfl rfl)) ?_
 refine st (v:=.bool false) (x_move (.tmp rfl rfl)) ?_
 refine g_yes (yl (dj:=17) (b:=false) rfl rfl rfl) ?_
 refine st (v:=.slice A_runs n_runs c_runs) (x_move (.tmp rfl rfl)) ?_
 refine g_yes (yl (dj:=17) (b:=false) rfl rfl rfl) ?_
 refine st (v:=.int .i64 ((n_runs:Nat):Int)) (x_len (n:=n_runs) Tryd.underlying38 (.tmp rfl rfl)) ?_
 refine g_yes (yl (dj:=17) (b:=false) rfl rfl rfl) ?_
 refine st (v:=.bool (decide ((6:Int) < ((n_runs:Nat):Int)))) (x_gtr (k:=.i64) (a:=((n_runs:Nat):Int)) (b:=6) (.tmp rfl rfl) .const) ?_
 refine st (v:=.bool (decide ((6:Int) < ((n_runs:Nat):Int)))) (x_pick_f (.tmp rfl rfl) (.tmp rfl rfl)) ?_
 refine c_nil (n_then ?_)
 rcases Bool.eq_false_or_eq_true (decide ((6:Int) < ((n_runs:Nat):Int))) with hc3 | hc3
 have hp3:(6:Int) < ((n_runs:Nat):Int):=of_decide_eq_true hc3
 refine c_cond_t (t:=true) (.tmp rfl (cVb hc3)) rfl ?_
 refine c_seq (c_region (st_c cb10 .func (evs0 ) (awake_spec hs2  ) ?_))
 rintro e w4 ⟨rfl,hs5⟩
 refine ⟨_,rfl,?_⟩
 refine st (v:=.bool true) (x_assign (.tmp rfl rfl)) ?_
 refine c_nil (n_then (c_ret (r_then (leave_ret (res_one (v:=.bool true) rfl (.mk rfl rfl)) ?_))))
 exact ⟨rfl,hs5⟩
 have hp3:¬ ((6:Int) < ((n_runs:Nat):Int)):=of_decide_eq_false hc3
 refine c_cond_f (t:=false) (.tmp rfl (cVb hc3)) rfl ?_
 refine c_skip (n_then (c_seq (c_region (st (v:=.int .u8 ((n:Nat):Int)) (x_move (.tmp rfl rfl)) ?_))))
 refine st (v:=.int .i64 ((n:Nat):Int)) (x_conv (k:=.u8) (a:=((n:Nat):Int)) Tryd.underlying5 Tryd.underlying3 (.tmp rfl rfl) (w64 (by omega) (by omega))) ?_
 refine st (v:=.int .i64 (((n % 6):Nat):Int)) (x_remN (k:=.i64) (m:=n) (n:=6) (.tmp rfl rfl) .const (by omega)) ?_
 refine st (v:=.int .i64 (((1 + (n % 6)):Nat):Int)) (x_add (k:=.i64) (a:=1) (b:=(((n % 6):Nat):Int)) .const (.tmp rfl rfl) ((w64 (by omega) (by omega)).trans (by omega))) ?_
 refine st (v:=.slice A_runs n_runs c_runs) (x_move (.tmp rfl rfl)) ?_
 refine st_c cb17 .func (evs2 (.tmp rfl rfl) (.tmp rfl rfl)) (traces_spec hs2 (1 + (n % 6)) runs h_runs (by omega) (by omega)) ?_
 rintro e w6 ⟨H8,v10,cs13,hle9,rfl,ok11,hk14,hs7⟩
 have:=h_runs.len
 refine ⟨_,rfl,?_⟩
 refine st (v:=v10) (x_assign (.tmp rfl rfl)) ?_
 refine c_nil (n_then (c_seq (c_seq (c_region (st (v:=.int .i64 0) (x_assign .const) ?_)))))
 refine c_nil (n_then (c_block (c_loop (fun ρ w mm => ∃ (H15:Hp) (i:Nat) (tl:List (List GEvent)) (v_tl:Value) (c_tl:List Value),ρ 2 = .int .u8 ((who:Nat):Int)∧ρ 7 = v_tl∧ρ 8 = .int .i64 ((i:Nat):Int)∧(H8.le H15)∧(RowOk (kSl kEvent).sz v_tl tl.length c_tl)∧((kSl kEvent).toKn.rows H15 tl c_tl)∧(i ≤ 1 + n % 6)∧(tl = ((tracesP (1 + (n % 6)) runs).take i).map safelessT ++ (tracesP (1 + (n % 6)) runs).drop i)∧(tl.length = 1 + n % 6)∧St H15 w (row 41 1 v_tl tl.length c_tl::L)∧mm = 1 + n % 6 - i) _ ⟨H8,0,(tracesP (1 + (n % 6)) runs),v10,cs13,rfl,rfl,rfl,(Hp.le.refl _),ok11,hk14,(by omega),rfl,traces_len,hs7,rfl⟩ ?_)))
 rintro ρ w mm ⟨H15,i,tl,v_tl,c_tl,hρ17,hρ18,hρ19,hg16,ok_tl,hk_tl,hi,htl,hlen,hs20,rfl⟩
 refine c_seq (c_seq (c_region (st (v:=.int .i64 ((i:Nat):Int)) (x_move (.tmp rfl hρ19)) ?_)))
 refine st (v:=v_tl) (x_move (.tmp rfl hρ18)) ?_
 obtain ⟨A21,c22,hv23,hc24⟩:=ok_tl.slice
 refine st (v:=.int .i64 ((tl.length:Nat):Int)) (x_len (n:=tl.length) Tryd.underlying36 (.tmp rfl hv23)) ?_
 refine st (v:=.bool (decide ((((i:Nat):Int):Int) < ((tl.length:Nat):Int)))) (x_lss (k:=.i64) (a:=((i:Nat):Int)) (b:=((tl.length:Nat):Int)) (.tmp rfl rfl) (.tmp rfl rfl)) ?_
 refine c_nil (n_then ?_)
 rcases Bool.eq_false_or_eq_true (decide ((((i:Nat):Int):Int) < ((tl.length:Nat):Int))) with hc25 | hc25
 have hp25:(((i:Nat):Int):Int) < ((tl.length:Nat):Int):=of_decide_eq_true hc25
 refine c_cond_t (t:=true) (.tmp rfl (cVb hc25)) rfl ?_
 refine c_skip (n_then (c_seq (c_block (c_region (st (v:=v_tl) (x_move (.tmp rfl hρ18)) ?_)))))
 refine st (v:=.int .i64 ((i:Nat):Int)) (x_move (.tmp rfl hρ19)) ?_
 refine st (v:=v_tl) (x_move (.tmp rfl hρ18)) ?_
 refine st (v:=.int .i64 ((i:Nat):Int)) (x_move (.tmp rfl hρ19)) ?_
 obtain ⟨g26,c27,hv28⟩:=ok_tl.pos (by omega)
 obtain ⟨e29,cs30,hx31,hr32,hsub33⟩:=Kn.rows_get (i:=i) hk_tl (by omega)
 obtain ⟨A34,n35,c36,rfl,hl37⟩:=hr32
 have:=hl37.len; have:n35 * 64 ≤ 140737488351232:=hl37.bnd; have:=hl37.le
 have hT_e29:=less_get (T:=(tracesP (1 + (n % 6)) runs)) (i:=i) (l:=e29) (by omega) (by rw [← htl]; exact hx31)
 have hsz_e29:e29.length ≤ 186:=traces_small _ (List.mem_of_getElem? hT_e29)
 refine st (v:=.pointer (some ⟨g26,(i * 1),none⟩)) (ixo36 (.tmp rfl hv28) rfl (i:=((i:Nat):Int)) (.tmp rfl rfl) (by omega) (by omega) (by omega)) ?_
 refine st (v:=.slice A34 n35 c36) (ld41 (.tmp rfl rfl) ((hs20.rowAt 0 rfl hv28 (i * 1) hsub33).cell 0 rfl)) ?_
 refine st_c cb18 .func (evs1 (.tmp rfl rfl)) (safeless_spec hs20 e29 hl37 ) ?_
 rintro e w38 ⟨H40,A42,n43,c44,hle41,rfl,sp45,hs39⟩
 have:=sp45.len; have:=sp45.le; have:n43 * 64 ≤ 140737488351232:=sp45.bnd
 refine ⟨_,rfl,?_⟩
 obtain ⟨g46,c47,hv48⟩:=ok_tl.pos (by omega)
 obtain ⟨e49,cs50,hx51,hr52,hsub53⟩:=Kn.rows_get (i:=i) (Kn.rows_mono hk_tl hle41) (by omega)
 obtain ⟨A54,n55,c56,rfl,hl57⟩:=hr52
 have:=hl57.len; have:n55 * 64 ≤ 140737488351232:=hl57.bnd; have:=hl57.le
 have hT_e49:=less_get (T:=(tracesP (1 + (n % 6)) runs)) (i:=i) (l:=e49) (by omega) (by rw [← htl]; exact hx51)
 have hsz_e49:e49.length ≤ 186:=traces_small _ (List.mem_of_getElem? hT_e49)
 refine st (v:=.pointer (some ⟨g46,(i * 1),none⟩)) (ixo36 (.tmp rfl hv48) rfl (i:=((i:Nat):Int)) (.tmp rfl rfl) (by omega) (by omega) (by omega)) ?_
 have hl63:i * 1 + 1 ≤ c_tl.length:=by have h1:=((Kn.rows_mono hk_tl hle41)).1; have h2:(kSl kEvent).sz = 1:=rfl; rw [h2] at h1; omega
 have hr62:(kSl kEvent).rep H40 (safelessT e29) [.slice A42 n43 c44]:=⟨A42,n43,c44,rfl,sp45⟩
 refine st_m0 (stor41 hs39 hv48 (i:=(i * 1)) (xs':=splice c_tl (i * 1) [.slice A42 n43 c44]) (.tmp rfl rfl) (u:=.slice A42 n43 c44) (.tmp rfl rfl) rfl (by omega) one1 rfl) ?_
 rintro w58 hs59
 have hk61:=Kn.rows_set (d:=(kSl kEvent).toKn) (Kn.rows_mono hk_tl hle41) (i:=i) (by omega) hr62
 have ok60:=ok_tl.splice (i:=i * 1) (vs:=[.slice A42 n43 c44]) (by simpa using hl63)
 have hn64:(tl.set i (safelessT e29)).length = tl.length:=List.length_set
 have ok65:RowOk (kSl kEvent).sz v_tl (tl.set i (safelessT e29)).length (splice c_tl (i * 1) [.slice A42 n43 c44]):=by rw [hn64]; exact ok60
 have hs66:St H40 w58 (row 41 1 v_tl ((tl.set i (safelessT e29)).length) (splice c_tl (i * 1) [.slice A42 n43 c44])::L):=by rw [hn64]; exact hs59
 refine c_nil (n_block (n_then (c_region (st (v:=.int .i64 ((i:Nat):Int)) (x_move (.tmp rfl hρ19)) ?_))))
 refine st (v:=.int .i64 (((i + 1):Nat):Int)) (x_add (k:=.i64) (a:=((i:Nat):Int)) (b:=1) (.tmp rfl rfl) .const ((w64 (by omega) (by omega)).trans (by omega))) ?_
 refine st (v:=.int .i64 (((i + 1):Nat):Int)) (x_assign (.tmp rfl rfl)) ?_
 refine c_nil ?_
 refine n_then ⟨_,_,rfl,?_,H40,(i + 1),(tl.set i (safelessT e29)),v_tl,(splice c_tl (i * 1) [.slice A42 n43 c44]),hρ17,hρ18,rfl,(hg16.trans hle41),ok65,hk61,(by omega),(by rw [htl]; exact less_set hT_e29),(by rw [List.length_set]; exact hlen),hs66,rfl⟩
 omega
 have hp25:¬ ((((i:Nat):Int):Int) < ((tl.length:Nat):Int)):=of_decide_eq_false hc25
 refine c_cond_f (t:=false) (.tmp rfl (cVb hc25)) rfl ?_
 refine c_exit (x_then (x_then (x_here (n_then (c_seq (c_region ?_))))))
 have htl9:tl = (tracesP (1 + (n % 6)) runs).map safelessT:=by rw [htl]; exact less_full (by omega)
 skip
 refine st (v:=.int .u8 ((who:Nat):Int)) (x_move (.tmp rfl hρ17)) ?_
 refine st (v:=.int .i64 ((who:Nat):Int)) (x_conv (k:=.u8) (a:=((who:Nat):Int)) Tryd.underlying5 Tryd.underlying3 (.tmp rfl rfl) (w64 (by omega) (by omega))) ?_
 refine st (v:=v_tl) (x_move (.tmp rfl hρ18)) ?_
 obtain ⟨A67,c68,hv69,hc70⟩:=ok_tl.slice
 refine st (v:=.int .i64 ((tl.length:Nat):Int)) (x_len (n:=tl.length) Tryd.underlying36 (.tmp rfl hv69)) ?_
 have:who % tl.length < tl.length:=Nat.mod_lt _ (by omega)
 refine st (v:=.int .i64 (((who % tl.length):Nat):Int)) (x_remN (k:=.i64) (m:=who) (n:=tl.length) (.tmp rfl rfl) (.tmp rfl rfl) (by omega)) ?_
 refine st (v:=.int .i64 (((who % tl.length):Nat):Int)) (x_assign (.tmp rfl rfl)) ?_
 refine c_nil (n_then (c_seq (c_region ?_)))
 obtain ⟨e71,cs72,hx73,hr74,hsub75⟩:=Kn.rows_get (i:=(who % tl.length)) hk_tl (by omega)
 obtain ⟨A76,n77,c78,rfl,hl79⟩:=hr74
 have:=hl79.len; have:n77 * 64 ≤ 140737488351232:=hl79.bnd; have:=hl79.le
 have hsz_e71:e71.length ≤ 186:=less_small traces_small _ (by rw [← htl9]; exact List.mem_of_getElem? hx73)
 skip
 refine st (v:=.slice none 0 0) (x_assign .const) ?_
 refine c_nil (n_then ?_)
 refine c_cut (fun ρ w => ∃ (mp:List GEvent) (mv:Value) (mc:List Value),ρ 7 = v_tl∧ρ 9 = .int .i64 (((who % tl.length):Nat):Int)∧ρ 10 = mv∧(RowOk kEvent.sz mv mp.length mc)∧(kEvent.toKn.rows H15 mp mc)∧(mp = partT e71)∧St H15 w (row 49 6 mv mp.length mc::row 41 1 v_tl tl.length c_tl::L)) ?_ ?_
 refine c_seq (c_region (st (v:=.int .i64 0) (x_assign .const) ?_))
 refine c_nil (n_then (c_block ?_))
 have hs82:St H15 _ (row 49 6 (.slice none 0 0) (([]:List GEvent).length) []::row 41 1 v_tl tl.length c_tl::L):=hs20.krowNil 49 kEvent
 have:([]:List GEvent).length = 0:=rfl
 refine c_loop (fun ρ w mm => ∃ (j:Nat) (m:List GEvent) (v_m:Value) (c_m:List Value),ρ 7 = v_tl∧ρ 9 = .int .i64 (((who % tl.length):Nat):Int)∧ρ 10 = v_m∧ρ 11 = .int .i64 ((j:Nat):Int)∧(RowOk kEvent.sz v_m m.length c_m)∧(kEvent.toKn.rows H15 m c_m)∧(j ≤ e71.length)∧(m = e71.take j)∧(m.length ≤ j)∧(∀ (q:Nat) (y:GEvent),1 ≤ q → q < j → e71[q]? = some y → ¬ y.Kind = 1)∧St H15 w (row 49 6 v_m m.length c_m::row 41 1 v_tl tl.length c_tl::L)∧mm = e71.length - j) _ ⟨0,([]:List GEvent),(.slice none 0 0),[],hρ18,rfl,rfl,rfl,(RowOk.knil kEvent),(Kn.rows_nil _ _),(by omega),rfl,(Nat.le_refl _),(fun q y h1 h2 => absurd h2 (by omega)),((hs82.p1).p1),rfl⟩ ?_
 rintro ρ w mm ⟨j,m,v_m,c_m,hρ84,hρ85,hρ86,hρ87,ok_m,hk_m,hj,hm,hml,hno,hs88,rfl⟩
 refine c_seq (c_seq (c_region (st (v:=.int .i64 ((j:Nat):Int)) (x_move (.tmp rfl hρ87)) ?_)))
 refine st (v:=v_tl) (x_move (.tmp rfl hρ84)) ?_
 refine st (v:=.int .i64 (((who % tl.length):Nat):Int)) (x_move (.tmp rfl hρ85)) ?_
 obtain ⟨g89,c90,hv91⟩:=ok_tl.pos (by omega)
 refine st (v:=.pointer (some ⟨g89,((who % tl.length) * 1),none⟩)) (ixo36 (.tmp rfl hv91) rfl (i:=(((who % tl.length):Nat):Int)) (.tmp rfl rfl) (by omega) (by omega) (by omega)) ?_
 refine st (v:=.slice A76 n77 c78) (ld41 (.tmp rfl rfl) ((hs88.rowAt 1 rfl hv91 ((who % tl.length) * 1) hsub75).cell 0 rfl)) ?_
 refine st (v:=.int .i64 ((n77:Nat):Int)) (x_len (n:=n77) Tryd.underlying41 (.tmp rfl rfl)) ?_
 refine st (v:=.bool (decide ((((j:Nat):Int):Int) < ((n77:Nat):Int)))) (x_lss (k:=.i64) (a:=((j:Nat):Int)) (b:=((n77:Nat):Int)) (.tmp rfl rfl) (.tmp rfl rfl)) ?_
 refine c_nil (n_then ?_)
 rcases Bool.eq_false_or_eq_true (decide ((((j:Nat):Int):Int) < ((n77:Nat):Int))) with hc92 | hc92
 have hp92:(((j:Nat):Int):Int) < ((n77:Nat):Int):=of_decide_eq_true hc92
 refine c_cond_t (t:=true) (.tmp rfl (cVb hc92)) rfl ?_
 refine c_skip (n_then (c_seq (c_block (c_seq (c_seq (c_region (st (v:=v_tl) (x_move (.tmp rfl hρ84)) ?_)))))))
 refine st (v:=.int .i64 (((who % tl.length):Nat):Int)) (x_move (.tmp rfl hρ85)) ?_
 obtain ⟨g93,c94,hv95⟩:=ok_tl.pos (by omega)
 refine st (v:=.pointer (some ⟨g93,((who % tl.length) * 1),none⟩)) (ixo36 (.tmp rfl hv95) rfl (i:=(((who % tl.length):Nat):Int)) (.tmp rfl rfl) (by omega) (by omega) (by omega)) ?_
 refine st (v:=.slice A76 n77 c78) (ld41 (.tmp rfl rfl) ((hs88.rowAt 1 rfl hv95 ((who % tl.length) * 1) hsub75).cell 0 rfl)) ?_
 refine st (v:=.int .i64 ((j:Nat):Int)) (x_move (.tmp rfl hρ87)) ?_
 obtain ⟨e96,b97,o98,cs99,hx100,hA101,hr102,hat103⟩:=hl79.get (i:=j) (by omega)
 obtain ⟨A111,n112,c113,rfl,b104,b105,⟨b106,b107⟩,b108,⟨b109,b110⟩,hy114⟩:=hr102
 have:=hy114.len; have:=hy114.bnd; have:=hy114.le
 have hat103x:∀ {w:World} {L:List Res},St H15 w L → At w ⟨b97,o98 + j * 6,none⟩ [.int .u8 ((e96.Kind:Nat):Int),.int .u64 ((e96.View.ID.N:Nat):Int),.int .i64 e96.View.ID.P,.int .u16 ((e96.View.Set:Nat):Int),.int .i64 e96.From,.slice A111 n112 c113]:=fun h => hat103 h
 have hN_e96:=less_ev (x:=e96) (by omega) htl9 hx73 (List.mem_of_getElem? hx100)
 refine st (v:=.pointer (some ⟨b97,(o98 + j * 6),none⟩)) (ixo41 (.tmp rfl rfl) hA101 (i:=((j:Nat):Int)) (.tmp rfl rfl) (by omega) (by omega) (by omega)) ?_
 refine st (v:=.pointer (some ⟨b97,(o98 + j * 6) + 0,none⟩)) (fa49_0 (.tmp rfl rfl)) ?_
 refine st (v:=.int .u8 ((e96.Kind:Nat):Int)) (ld5 (.tmp rfl rfl) ((hat103x hs88).cell 0 rfl)) ?_
 refine st (v:=.bool (decide ((((e96.Kind:Nat):Int):Int) = 1))) (x_eql (k:=.u8) (a:=((e96.Kind:Nat):Int)) (b:=1) (.tmp rfl rfl) .const) ?_
 refine st (v:=.bool (decide ((((e96.Kind:Nat):Int):Int) = 1))) (x_move (.tmp rfl rfl)) ?_
 refine jw 3 (fun ρ w => ρ 69 = .bool ((decide ((((e96.Kind:Nat):Int):Int) = 1)) && (decide ((0:Int) < ((j:Nat):Int))))∧ρ 7 = v_tl∧ρ 9 = .int .i64 (((who % tl.length):Nat):Int)∧ρ 10 = v_m∧ρ 11 = .int .i64 ((j:Nat):Int)∧St H15 w (row 49 6 v_m m.length c_m::row 41 1 v_tl tl.length c_tl::L)) ?_ ?_
 rcases Bool.eq_false_or_eq_true (decide ((((e96.Kind:Nat):Int):Int) = 1)) with hc115 | hc115
 have hp115:(((e96.Kind:Nat):Int):Int) = 1:=of_decide_eq_true hc115
 refine g_yes (yk 66 true rfl rfl hc115) ?_
 refine st (v:=.int .i64 ((j:Nat):Int)) (x_move (.tmp rfl hρ87)) ?_
 refine g_yes (yk 66 true rfl rfl hc115) ?_
 refine st (v:=.bool (decide ((0:Int) < ((j:Nat):Int)))) (x_gtr (k:=.i64) (a:=((j:Nat):Int)) (b:=0) (.tmp rfl rfl) .const) ?_
 refine st (v:=.bool (decide ((0:Int) < ((j:Nat):Int)))) (x_pick_t (.tmp rfl (cVb hc115)) (.tmp rfl rfl)) ?_
 exact jw_end ⟨(cVb (jand_t hc115)),hρ84,hρ85,hρ86,hρ87,hs88⟩
 have hp115:¬ ((((e96.Kind:Nat):Int):Int) = 1):=of_decide_eq_false hc115
 refine g_no (yk 66 false rfl rfl hc115) rfl ?_
 refine g_no (yk 66 false rfl rfl hc115) rfl ?_
 refine st (v:=.bool false) (x_pick_f (.tmp rfl (cVb hc115)) .const) ?_
 exact jw_end ⟨(cVb (jand_f hc115)),hρ84,hρ85,hρ86,hρ87,hs88⟩
 rintro ρ w ⟨hρ116,hρ117,hρ118,hρ119,hρ120,hs121⟩
 refine c_nil (n_then ?_)
 rcases Bool.eq_false_or_eq_true ((decide ((((e96.Kind:Nat):Int):Int) = 1)) && (decide ((0:Int) < ((j:Nat):Int)))) with hc122 | hc122
 have hp122:((((e96.Kind:Nat):Int):Int) = 1)∧((0:Int) < ((j:Nat):Int)):=((J_and decide_eq_true_iff decide_eq_true_iff)).1 hc122
 refine c_cond_t (t:=true) (.tmp rfl (hρ116.trans (cVb hc122))) rfl ?_
 refine c_exit (x_then (x_block rfl (x_then (x_then (x_here ?_)))))
 exact n_then ⟨_,rfl,m,v_m,c_m,hρ117,hρ118,hρ119,ok_m,hk_m,(hm.trans (part_end hno (.inr ⟨by omega,_,hx100,by omega⟩))),((hs121.p1).p1)⟩
 have hp122:¬ (((((e96.Kind:Nat):Int):Int) = 1)∧((0:Int) < ((j:Nat):Int))):=J_no (J_and decide_eq_true_iff decide_eq_true_iff) hc122
 refine c_cond_f (t:=false) (.tmp rfl (hρ116.trans (cVb hc122))) rfl ?_
 refine c_skip (n_then (c_region (st (v:=v_m) (x_move (.tmp rfl hρ119)) ?_)))
 refine st (v:=v_tl) (x_move (.tmp rfl hρ117)) ?_
 refine st (v:=.int .i64 (((who % tl.length):Nat):Int)) (x_move (.tmp rfl hρ118)) ?_
 obtain ⟨g123,c124,hv125⟩:=ok_tl.pos (by omega)
 refine st (v:=.pointer (some ⟨g123,((who % tl.length) * 1),none⟩)) (ixo36 (.tmp rfl hv125) rfl (i:=(((who % tl.length):Nat):Int)) (.tmp rfl rfl) (by omega) (by omega) (by omega)) ?_
 refine st (v:=.slice A76 n77 c78) (ld41 (.tmp rfl rfl) ((hs121.rowAt 1 rfl hv125 ((who % tl.length) * 1) hsub75).cell 0 rfl)) ?_
 refine st (v:=.int .i64 ((j:Nat):Int)) (x_move (.tmp rfl hρ120)) ?_
 refine st (v:=.pointer (some ⟨b97,(o98 + j * 6),none⟩)) (ixo41 (.tmp rfl rfl) hA101 (i:=((j:Nat):Int)) (.tmp rfl rfl) (by omega) (by omega) (by omega)) ?_
 refine st (v:=.agg #[.int .u8 ((e96.Kind:Nat):Int),.int .u64 ((e96.View.ID.N:Nat):Int),.int .i64 e96.View.ID.P,.int .u16 ((e96.View.Set:Nat):Int),.int .i64 e96.From,.slice A111 n112 c113]) (ld49 (cs:=[.int .u8 ((e96.Kind:Nat):Int),.int .u64 ((e96.View.ID.N:Nat):Int),.int .i64 e96.View.ID.P,.int .u16 ((e96.View.Set:Nat):Int),.int .i64 e96.From,.slice A111 n112 c113]) (.tmp rfl rfl) ((hat103x hs121).sub 0 rfl) rfl) ?_
 refine st_m (m_lit (n:=1) (ps:=[(0,.agg #[.int .u8 ((e96.Kind:Nat):Int),.int .u64 ((e96.View.ID.N:Nat):Int),.int .i64 e96.View.ID.P,.int .u16 ((e96.View.Set:Nat):Int),.int .i64 e96.From,.slice A111 n112 c113])]) (cs:=[.int .u8 ((e96.Kind:Nat):Int),.int .u64 ((e96.View.ID.N:Nat):Int),.int .i64 e96.View.ID.P,.int .u16 ((e96.View.Set:Nat):Int),.int .i64 e96.From,.slice A111 n112 c113]) Tryd.underlying41 inf49 (.cons (.tmp rfl rfl) Evp.nil) (by decide) (by decide) rfl rfl hs121) ?_
 rintro _ w127 ⟨g126,rfl,hs129⟩
 have hs130:=hs129.p1
 have hr138:kEvent.rep H15 e96 [.int .u8 ((e96.Kind:Nat):Int),.int .u64 ((e96.View.ID.N:Nat):Int),.int .i64 e96.View.ID.P,.int .u16 ((e96.View.Set:Nat):Int),.int .i64 e96.From,.slice A111 n112 c113]:=⟨A111,n112,c113,rfl,b104,b105,⟨b106,b107⟩,b108,⟨b109,b110⟩,hy114⟩
 refine st_m (m_appK (d:=kEvent) (ys:=[e96]) (news:=[.int .u8 ((e96.Kind:Nat):Int),.int .u64 ((e96.View.ID.N:Nat):Int),.int .i64 e96.View.ID.P,.int .u16 ((e96.View.Set:Nat):Int),.int .i64 e96.From,.slice A111 n112 c113]) Tryd.underlying41 inf49 rfl hs130 ok_m hk_m (.tmp rfl rfl) (.tmp rfl rfl) (Kn.rows_one hr138) rfl (hs130.at_ 1 rfl 0 rfl) (by have:([e96]:List GEvent).length = 1:=rfl; omega) (by decide)) ?_
 rintro v131 w132 ⟨cs133,ok134,hk135,hs136⟩
 have hn137:(m ++ [e96]).length = m.length + 1:=by simp
 refine st (v:=v131) (x_assign (.tmp rfl rfl)) ?_
 refine c_nil (n_block (n_then (c_region (st (v:=.int .i64 ((j:Nat):Int)) (x_move (.tmp rfl hρ120)) ?_))))
 refine st (v:=.int .i64 (((j + 1):Nat):Int)) (x_add (k:=.i64) (a:=((j:Nat):Int)) (b:=1) (.tmp rfl rfl) .const ((w64 (by omega) (by omega)).trans (by omega))) ?_
 refine st (v:=.int .i64 (((j + 1):Nat):Int)) (x_assign (.tmp rfl rfl)) ?_
 refine c_nil ?_
 refine n_then ⟨_,_,rfl,?_,(j + 1),(m ++ [e96]),v131,cs133,hρ117,hρ118,rfl,rfl,ok134,hk135,(by omega),(by rw [hm,take_next hx100]),(by omega),(part_next hno hx100 (by omega)),(((hs136.p1).drop.p1).p1),rfl⟩
 omega
 have hp92:¬ ((((j:Nat):Int):Int) < ((n77:Nat):Int)):=of_decide_eq_false hc92
 refine c_cond_f (t:=false) (.tmp rfl (cVb hc92)) rfl ?_
 refine c_exit (x_then (x_then (x_here ?_)))
 exact n_then ⟨_,rfl,m,v_m,c_m,hρ84,hρ85,hρ86,ok_m,hk_m,(hm.trans (part_end hno (.inl (by omega)))),((hs88.p1).p1)⟩
 rintro ρ w ⟨mp,mv,mc,hρ139,hρ140,hρ141,okm,hkm,hmp,hs142⟩
 have hmpl:mp.length ≤ e71.length:=by rw [hmp]; exact part_len
 refine c_seq (c_region (st (v:=.int .i64 (-1)) (x_assign .const) ?_))
 refine c_nil (n_then (c_seq (c_seq (c_region (st (v:=.int .i64 0) (x_assign .const) ?_)))))
 refine c_nil (n_then (c_block (c_loop (fun ρ w mm => ∃ (i2:Nat) (last:Int),ρ 7 = v_tl∧ρ 9 = .int .i64 (((who % tl.length):Nat):Int)∧ρ 10 = mv∧ρ 12 = .int .i64 last∧ρ 13 = .int .i64 ((i2:Nat):Int)∧(i2 ≤ tl.length)∧(LA (who % tl.length) tl i2 last)∧(-1 ≤ last∧last ≤ 6)∧St H15 w (row 49 6 mv mp.length mc::row 41 1 v_tl tl.length c_tl::L)∧mm = tl.length - i2) _ ⟨0,(-1),hρ139,hρ140,hρ141,rfl,rfl,(by omega),LA.zero,(by omega),((hs142.p1).p1),rfl⟩ ?_)))
 rintro ρ w mm ⟨i2,last,hρ144,hρ145,hρ146,hρ147,hρ148,hi2,hL,hlb,hs149,rfl⟩
 refine c_seq (c_seq (c_region (st (v:=.int .i64 ((i2:Nat):Int)) (x_move (.tmp rfl hρ148)) ?_)))
 refine st (v:=v_tl) (x_move (.tmp rfl hρ144)) ?_
 obtain ⟨A150,c151,hv152,hc153⟩:=ok_tl.slice
 refine st (v:=.int .i64 ((tl.length:Nat):Int)) (x_len (n:=tl.length) Tryd.underlying36 (.tmp rfl hv152)) ?_
 refine st (v:=.bool (decide ((((i2:Nat):Int):Int) < ((tl.length:Nat):Int)))) (x_lss (k:=.i64) (a:=((i2:Nat):Int)) (b:=((tl.length:Nat):Int)) (.tmp rfl rfl) (.tmp rfl rfl)) ?_
 refine c_nil (n_then ?_)
 rcases Bool.eq_false_or_eq_true (decide ((((i2:Nat):Int):Int) < ((tl.length:Nat):Int))) with hc154 | hc154
 have hp154:(((i2:Nat):Int):Int) < ((tl.length:Nat):Int):=of_decide_eq_true hc154
 refine c_cond_t (t:=true) (.tmp rfl (cVb hc154)) rfl ?_
 refine c_skip (n_then (c_seq (c_block (c_seq (c_region ?_)))))
 obtain ⟨e155,cs156,hx157,hr158,hsub159⟩:=Kn.rows_get (i:=i2) hk_tl (by omega)
 obtain ⟨A160,n161,c162,rfl,hl163⟩:=hr158
 have:=hl163.len; have:n161 * 64 ≤ 140737488351232:=hl163.bnd; have:=hl163.le
 have hsz_e155:e155.length ≤ 186:=less_small traces_small _ (by rw [← htl9]; exact List.mem_of_getElem? hx157)
 skip
 refine st (v:=.int .i64 0) (x_assign .const) ?_
 refine c_nil (n_then (c_block (c_loop (fun ρ w mm => ∃ (j2:Nat) (last:Int),ρ 7 = v_tl∧ρ 9 = .int .i64 (((who % tl.length):Nat):Int)∧ρ 10 = mv∧ρ 12 = .int .i64 last∧ρ 13 = .int .i64 ((i2:Nat):Int)∧ρ 14 = .int .i64 ((j2:Nat):Int)∧(j2 ≤ e155.length)∧(LA (who % tl.length) tl i2 last)∧(-1 ≤ last∧last ≤ 6)∧(i2 ≠ (who % tl.length) → LQj (who % tl.length) e155 j2 last)∧St H15 w (row 49 6 mv mp.length mc::row 41 1 v_tl tl.length c_tl::L)∧mm = e155.length - j2) _ ⟨0,last,hρ144,hρ145,hρ146,hρ147,hρ148,rfl,(by omega),hL,(by omega),(fun _ => LQj.zero),((hs149.p1).p1),rfl⟩ ?_)))
 rintro ρ w mm ⟨j2,last,hρ165,hρ166,hρ167,hρ168,hρ169,hρ170,hj2,hL,hlb,hL2,hs171,rfl⟩
 refine c_seq (c_seq (c_region (st (v:=.int .i64 ((j2:Nat):Int)) (x_move (.tmp rfl hρ170)) ?_)))
 refine st (v:=v_tl) (x_move (.tmp rfl hρ165)) ?_
 refine st (v:=.int .i64 ((i2:Nat):Int)) (x_move (.tmp rfl hρ169)) ?_
 obtain ⟨g172,c173,hv174⟩:=ok_tl.pos (by omega)
 refine st (v:=.pointer (some ⟨g172,(i2 * 1),none⟩)) (ixo36 (.tmp rfl hv174) rfl (i:=((i2:Nat):Int)) (.tmp rfl rfl) (by omega) (by omega) (by omega)) ?_
 refine st (v:=.slice A160 n161 c162) (ld41 (.tmp rfl rfl) ((hs171.rowAt 1 rfl hv174 (i2 * 1) hsub159).cell 0 rfl)) ?_
 refine st (v:=.int .i64 ((n161:Nat):Int)) (x_len (n:=n161) Tryd.underlying41 (.tmp rfl rfl)) ?_
 refine st (v:=.bool (decide ((((j2:Nat):Int):Int) < ((n161:Nat):Int)))) (x_lss (k:=.i64) (a:=((j2:Nat):Int)) (b:=((n161:Nat):Int)) (.tmp rfl rfl) (.tmp rfl rfl)) ?_
 refine c_nil (n_then ?_)
 rcases Bool.eq_false_or_eq_true (decide ((((j2:Nat):Int):Int) < ((n161:Nat):Int))) with hc175 | hc175
 have hp175:(((j2:Nat):Int):Int) < ((n161:Nat):Int):=of_decide_eq_true hc175
 refine c_cond_t (t:=true) (.tmp rfl (cVb hc175)) rfl ?_
 refine c_skip (n_then (c_seq (c_block (c_seq (c_region ?_)))))
 obtain ⟨e176,b177,o178,cs179,hx180,hA181,hr182,hat183⟩:=hl163.get (i:=j2) (by omega)
 obtain ⟨A191,n192,c193,rfl,b184,b185,⟨b186,b187⟩,b188,⟨b189,b190⟩,hy194⟩:=hr182
 have:=hy194.len; have:=hy194.bnd; have:=hy194.le
 have hat183x:∀ {w:World} {L:List Res},St H15 w L → At w ⟨b177,o178 + j2 * 6,none⟩ [.int .u8 ((e176.Kind:Nat):Int),.int .u64 ((e176.View.ID.N:Nat):Int),.int .i64 e176.View.ID.P,.int .u16 ((e176.View.Set:Nat):Int),.int .i64 e176.From,.slice A191 n192 c193]:=fun h => hat183 h
 have hN_e176:=less_ev (x:=e176) (by omega) htl9 hx157 (List.mem_of_getElem? hx180)
 skip
 refine st (v:=.int .i64 ((i2:Nat):Int)) (x_move (.tmp rfl hρ169)) ?_
 refine st (v:=.int .i64 (((who % tl.length):Nat):Int)) (x_move (.tmp rfl hρ166)) ?_
 refine st (v:=.bool (decide ((((i2:Nat):Int):Int) ≠ (((who % tl.length):Nat):Int)))) (x_neq (k:=.i64) (a:=((i2:Nat):Int)) (b:=(((who % tl.length):Nat):Int)) (.tmp rfl rfl) (.tmp rfl rfl)) ?_
 refine st (v:=.bool (decide ((((i2:Nat):Int):Int) ≠ (((who % tl.length):Nat):Int)))) (x_move (.tmp rfl rfl)) ?_
 refine jw 10 (fun ρ w => ρ 108 = .bool ((decide ((((i2:Nat):Int):Int) ≠ (((who % tl.length):Nat):Int))) && (decide ((((e176.Kind:Nat):Int):Int) = 3)))∧ρ 7 = v_tl∧ρ 9 = .int .i64 (((who % tl.length):Nat):Int)∧ρ 10 = mv∧ρ 12 = .int .i64 last∧ρ 13 = .int .i64 ((i2:Nat):Int)∧ρ 14 = .int .i64 ((j2:Nat):Int)∧St H15 w (row 49 6 mv mp.length mc::row 41 1 v_tl tl.length c_tl::L)) ?_ ?_
 rcases Bool.eq_false_or_eq_true (decide ((((i2:Nat):Int):Int) ≠ (((who % tl.length):Nat):Int))) with hc195 | hc195
 have hp195:(((i2:Nat):Int):Int) ≠ (((who % tl.length):Nat):Int):=of_decide_eq_true hc195
 refine g_yes (yk 98 true rfl rfl hc195) ?_
 refine st (v:=v_tl) (x_move (.tmp rfl hρ165)) ?_
 refine g_yes (yk 98 true rfl rfl hc195) ?_
 refine st (v:=.int .i64 ((i2:Nat):Int)) (x_move (.tmp rfl hρ169)) ?_
 refine g_yes (yk 98 true rfl rfl hc195) ?_
 obtain ⟨g196,c197,hv198⟩:=ok_tl.pos (by omega)
 refine st (v:=.pointer (some ⟨g196,(i2 * 1),none⟩)) (ixo36 (.tmp rfl hv198) rfl (i:=((i2:Nat):Int)) (.tmp rfl rfl) (by omega) (by omega) (by omega)) ?_
 refine g_yes (yk 98 true rfl rfl hc195) ?_
 refine st (v:=.slice A160 n161 c162) (ld41 (.tmp rfl rfl) ((hs171.rowAt 1 rfl hv198 (i2 * 1) hsub159).cell 0 rfl)) ?_
 refine g_yes (yk 98 true rfl rfl hc195) ?_
 refine st (v:=.int .i64 ((j2:Nat):Int)) (x_move (.tmp rfl hρ170)) ?_
 refine g_yes (yk 98 true rfl rfl hc195) ?_
 refine st (v:=.pointer (some ⟨b177,(o178 + j2 * 6),none⟩)) (ixo41 (.tmp rfl rfl) hA181 (i:=((j2:Nat):Int)) (.tmp rfl rfl) (by omega) (by omega) (by omega)) ?_
 refine g_yes (yk 98 true rfl rfl hc195) ?_
 refine st (v:=.pointer (some ⟨b177,(o178 + j2 * 6) + 0,none⟩)) (fa49_0 (.tmp rfl rfl)) ?_
 refine g_yes (yk 98 true rfl rfl hc195) ?_
 refine st (v:=.int .u8 ((e176.Kind:Nat):Int)) (ld5 (.tmp rfl rfl) ((hat183x hs171).cell 0 rfl)) ?_
 refine g_yes (yk 98 true rfl rfl hc195) ?_
 refine st (v:=.bool (decide ((((e176.Kind:Nat):Int):Int) = 3))) (x_eql (k:=.u8) (a:=((e176.Kind:Nat):Int)) (b:=3) (.tmp rfl rfl) .const) ?_
 refine st (v:=.bool (decide ((((e176.Kind:Nat):Int):Int) = 3))) (x_pick_t (.tmp rfl (cVb hc195)) (.tmp rfl rfl)) ?_
 exact jw_end ⟨(cVb (jand_t hc195)),hρ165,hρ166,hρ167,hρ168,hρ169,hρ170,hs171⟩
 have hp195:¬ ((((i2:Nat):Int):Int) ≠ (((who % tl.length):Nat):Int)):=of_decide_eq_false hc195
 refine g_no (yk 98 false rfl rfl hc195) rfl ?_
 refine g_no (yk 98 false rfl rfl hc195) rfl ?_
 refine g_no (yk 98 false rfl rfl hc195) rfl ?_
 refine g_no (yk 98 false rfl rfl hc195) rfl ?_
 refine g_no (yk 98 false rfl rfl hc195) rfl ?_
 refine g_no (yk 98 false rfl rfl hc195) rfl ?_
 refine g_no (yk 98 false rfl rfl hc195) rfl ?_
 refine g_no (yk 98 false rfl rfl hc195) rfl ?_
 refine g_no (yk 98 false rfl rfl hc195) rfl ?_
 refine st (v:=.bool false) (x_pick_f (.tmp rfl (cVb hc195)) .const) ?_
 exact jw_end ⟨(cVb (jand_f hc195)),hρ165,hρ166,hρ167,hρ168,hρ169,hρ170,hs171⟩
 rintro ρ w ⟨hρ199,hρ200,hρ201,hρ202,hρ203,hρ204,hρ205,hs206⟩
 refine st (v:=.bool ((decide ((((i2:Nat):Int):Int) ≠ (((who % tl.length):Nat):Int))) && (decide ((((e176.Kind:Nat):Int):Int) = 3)))) (x_move (.tmp rfl hρ199)) ?_
 refine jw 11 (fun ρ w => ρ 120 = .bool (((decide ((((i2:Nat):Int):Int) ≠ (((who % tl.length):Nat):Int))) && (decide ((((e176.Kind:Nat):Int):Int) = 3))) && (decide ((e176.From:Int) = (((who % tl.length):Nat):Int))))∧ρ 7 = v_tl∧ρ 9 = .int .i64 (((who % tl.length):Nat):Int)∧ρ 10 = mv∧ρ 12 = .int .i64 last∧ρ 13 = .int .i64 ((i2:Nat):Int)∧ρ 14 = .int .i64 ((j2:Nat):Int)∧St H15 w (row 49 6 mv mp.length mc::row 41 1 v_tl tl.length c_tl::L)) ?_ ?_
 rcases Bool.eq_false_or_eq_true ((decide ((((i2:Nat):Int):Int) ≠ (((who % tl.length):Nat):Int))) && (decide ((((e176.Kind:Nat):Int):Int) = 3))) with hc207 | hc207
 have hp207:((((i2:Nat):Int):Int) ≠ (((who % tl.length):Nat):Int))∧((((e176.Kind:Nat):Int):Int) = 3):=((J_and decide_eq_true_iff decide_eq_true_iff)).1 hc207
 refine g_yes (yk 109 true rfl rfl hc207) ?_
 refine st (v:=v_tl) (x_move (.tmp rfl hρ200)) ?_
 refine g_yes (yk 109 true rfl rfl hc207) ?_
 refine st (v:=.int .i64 ((i2:Nat):Int)) (x_move (.tmp rfl hρ204)) ?_
 refine g_yes (yk 109 true rfl rfl hc207) ?_
 obtain ⟨g208,c209,hv210⟩:=ok_tl.pos (by omega)
 refine st (v:=.pointer (some ⟨g208,(i2 * 1),none⟩)) (ixo36 (.tmp rfl hv210) rfl (i:=((i2:Nat):Int)) (.tmp rfl rfl) (by omega) (by omega) (by omega)) ?_
 refine g_yes (yk 109 true rfl rfl hc207) ?_
 refine st (v:=.slice A160 n161 c162) (ld41 (.tmp rfl rfl) ((hs206.rowAt 1 rfl hv210 (i2 * 1) hsub159).cell 0 rfl)) ?_
 refine g_yes (yk 109 true rfl rfl hc207) ?_
 refine st (v:=.int .i64 ((j2:Nat):Int)) (x_move (.tmp rfl hρ205)) ?_
 refine g_yes (yk 109 true rfl rfl hc207) ?_
 refine st (v:=.pointer (some ⟨b177,(o178 + j2 * 6),none⟩)) (ixo41 (.tmp rfl rfl) hA181 (i:=((j2:Nat):Int)) (.tmp rfl rfl) (by omega) (by omega) (by omega)) ?_
 refine g_yes (yk 109 true rfl rfl hc207) ?_
 refine st (v:=.pointer (some ⟨b177,(o178 + j2 * 6) + 4,none⟩)) (fa49_2 (.tmp rfl rfl)) ?_
 refine g_yes (yk 109 true rfl rfl hc207) ?_
 refine st (v:=.int .i64 e176.From) (ld3 (.tmp rfl rfl) ((hat183x hs206).cell 4 rfl)) ?_
 refine g_yes (yk 109 true rfl rfl hc207) ?_
 refine st (v:=.int .i64 (((who % tl.length):Nat):Int)) (x_move (.tmp rfl hρ201)) ?_
 refine g_yes (yk 109 true rfl rfl hc207) ?_
 refine st (v:=.bool (decide ((e176.From:Int) = (((who % tl.length):Nat):Int)))) (x_eql (k:=.i64) (a:=e176.From) (b:=(((who % tl.length):Nat):Int)) (.tmp rfl rfl) (.tmp rfl rfl)) ?_
 refine st (v:=.bool (decide ((e176.From:Int) = (((who % tl.length):Nat):Int)))) (x_pick_t (.tmp rfl (cVb hc207)) (.tmp rfl rfl)) ?_
 exact jw_end ⟨(cVb (jand_t hc207)),hρ200,hρ201,hρ202,hρ203,hρ204,hρ205,hs206⟩
 have hp207:¬ (((((i2:Nat):Int):Int) ≠ (((who % tl.length):Nat):Int))∧((((e176.Kind:Nat):Int):Int) = 3)):=J_no (J_and decide_eq_true_iff decide_eq_true_iff) hc207
 refine g_no (yk 109 false rfl rfl hc207) rfl ?_
 refine g_no (yk 109 false rfl rfl hc207) rfl ?_
 refine g_no (yk 109 false rfl rfl hc207) rfl ?_
 refine g_no (yk 109 false rfl rfl hc207) rfl ?_
 refine g_no (yk 109 false rfl rfl hc207) rfl ?_
 refine g_no (yk 109 false rfl rfl hc207) rfl ?_
 refine g_no (yk 109 false rfl rfl hc207) rfl ?_
 refine g_no (yk 109 false rfl rfl hc207) rfl ?_
 refine g_no (yk 109 false rfl rfl hc207) rfl ?_
 refine g_no (yk 109 false rfl rfl hc207) rfl ?_
 refine st (v:=.bool false) (x_pick_f (.tmp rfl (cVb hc207)) .const) ?_
 exact jw_end ⟨(cVb (jand_f hc207)),hρ200,hρ201,hρ202,hρ203,hρ204,hρ205,hs206⟩
 rintro ρ w ⟨hρ211,hρ212,hρ213,hρ214,hρ215,hρ216,hρ217,hs218⟩
 refine st (v:=.bool (((decide ((((i2:Nat):Int):Int) ≠ (((who % tl.length):Nat):Int))) && (decide ((((e176.Kind:Nat):Int):Int) = 3))) && (decide ((e176.From:Int) = (((who % tl.length):Nat):Int))))) (x_move (.tmp rfl hρ211)) ?_
 refine jw 14 (fun ρ w => ρ 135 = .bool ((((decide ((((i2:Nat):Int):Int) ≠ (((who % tl.length):Nat):Int))) && (decide ((((e176.Kind:Nat):Int):Int) = 3))) && (decide ((e176.From:Int) = (((who % tl.length):Nat):Int)))) && (decide ((last:Int) < ((e176.View.ID.N:Nat):Int))))∧ρ 7 = v_tl∧ρ 9 = .int .i64 (((who % tl.length):Nat):Int)∧ρ 10 = mv∧ρ 12 = .int .i64 last∧ρ 13 = .int .i64 ((i2:Nat):Int)∧ρ 14 = .int .i64 ((j2:Nat):Int)∧St H15 w (row 49 6 mv mp.length mc::row 41 1 v_tl tl.length c_tl::L)) ?_ ?_
 rcases Bool.eq_false_or_eq_true (((decide ((((i2:Nat):Int):Int) ≠ (((who % tl.length):Nat):Int))) && (decide ((((e176.Kind:Nat):Int):Int) = 3))) && (decide ((e176.From:Int) = (((who % tl.length):Nat):Int)))) with hc219 | hc219
 have hp219:(((((i2:Nat):Int):Int) ≠ (((who % tl.length):Nat):Int))∧((((e176.Kind:Nat):Int):Int) = 3))∧((e176.From:Int) = (((who % tl.length):Nat):Int)):=((J_and (J_and decide_eq_true_iff decide_eq_true_iff) decide_eq_true_iff)).1 hc219
 refine g_yes (yk 121 true rfl rfl hc219) ?_
 refine st (v:=v_tl) (x_move (.tmp rfl hρ212)) ?_
 refine g_yes (yk 121 true rfl rfl hc219) ?_
 refine st (v:=.int .i64 ((i2:Nat):Int)) (x_move (.tmp rfl hρ216)) ?_
 refine g_yes (yk 121 true rfl rfl hc219) ?_
 obtain ⟨g220,c221,hv222⟩:=ok_tl.pos (by omega)
 refine st (v:=.pointer (some ⟨g220,(i2 * 1),none⟩)) (ixo36 (.tmp rfl hv222) rfl (i:=((i2:Nat):Int)) (.tmp rfl rfl) (by omega) (by omega) (by omega)) ?_
 refine g_yes (yk 121 true rfl rfl hc219) ?_
 refine st (v:=.slice A160 n161 c162) (ld41 (.tmp rfl rfl) ((hs218.rowAt 1 rfl hv222 (i2 * 1) hsub159).cell 0 rfl)) ?_
 refine g_yes (yk 121 true rfl rfl hc219) ?_
 refine st (v:=.int .i64 ((j2:Nat):Int)) (x_move (.tmp rfl hρ217)) ?_
 refine g_yes (yk 121 true rfl rfl hc219) ?_
 refine st (v:=.pointer (some ⟨b177,(o178 + j2 * 6),none⟩)) (ixo41 (.tmp rfl rfl) hA181 (i:=((j2:Nat):Int)) (.tmp rfl rfl) (by omega) (by omega) (by omega)) ?_
 refine g_yes (yk 121 true rfl rfl hc219) ?_
 refine st (v:=.pointer (some ⟨b177,(o178 + j2 * 6) + 1,none⟩)) (fa49_1 (.tmp rfl rfl)) ?_
 refine g_yes (yk 121 true rfl rfl hc219) ?_
 refine st (v:=.pointer (some ⟨b177,(o178 + j2 * 6) + 1 + 0,none⟩)) (fa47_0 (.tmp rfl rfl)) ?_
 refine g_yes (yk 121 true rfl rfl hc219) ?_
 refine st (v:=.pointer (some ⟨b177,(o178 + j2 * 6) + 1 + 0 + 0,none⟩)) (fa44_0 (.tmp rfl rfl)) ?_
 refine g_yes (yk 121 true rfl rfl hc219) ?_
 refine st (v:=.int .u64 ((e176.View.ID.N:Nat):Int)) (ld42 (.tmp rfl rfl) ((hat183x hs218).cell 1 rfl)) ?_
 refine g_yes (yk 121 true rfl rfl hc219) ?_
 refine st (v:=.int .i64 ((e176.View.ID.N:Nat):Int)) (x_conv (k:=.u64) (a:=((e176.View.ID.N:Nat):Int)) Tryd.underlying42 Tryd.underlying3 (.tmp rfl rfl) (w64 (by omega) (by omega))) ?_
 refine g_yes (yk 121 true rfl rfl hc219) ?_
 refine st (v:=.int .i64 last) (x_move (.tmp rfl hρ215)) ?_
 refine g_yes (yk 121 true rfl rfl hc219) ?_
 refine st (v:=.bool (decide ((last:Int) < ((e176.View.ID.N:Nat):Int)))) (x_gtr (k:=.i64) (a:=((e176.View.ID.N:Nat):Int)) (b:=last) (.tmp rfl rfl) (.tmp rfl rfl)) ?_
 refine st (v:=.bool (decide ((last:Int) < ((e176.View.ID.N:Nat):Int)))) (x_pick_t (.tmp rfl (cVb hc219)) (.tmp rfl rfl)) ?_
 exact jw_end ⟨(cVb (jand_t hc219)),hρ212,hρ213,hρ214,hρ215,hρ216,hρ217,hs218⟩
 have hp219:¬ ((((((i2:Nat):Int):Int) ≠ (((who % tl.length):Nat):Int))∧((((e176.Kind:Nat):Int):Int) = 3))∧((e176.From:Int) = (((who % tl.length):Nat):Int))):=J_no (J_and (J_and decide_eq_true_iff decide_eq_true_iff) decide_eq_true_iff) hc219
 refine g_no (yk 121 false rfl rfl hc219) rfl ?_
 refine g_no (yk 121 false rfl rfl hc219) rfl ?_
 refine g_no (yk 121 false rfl rfl hc219) rfl ?_
 refine g_no (yk 121 false rfl rfl hc219) rfl ?_
 refine g_no (yk 121 false rfl rfl hc219) rfl ?_
 refine g_no (yk 121 false rfl rfl hc219) rfl ?_
 refine g_no (yk 121 false rfl rfl hc219) rfl ?_
 refine g_no (yk 121 false rfl rfl hc219) rfl ?_
 refine g_no (yk 121 false rfl rfl hc219) rfl ?_
 refine g_no (yk 121 false rfl rfl hc219) rfl ?_
 refine g_no (yk 121 false rfl rfl hc219) rfl ?_
 refine g_no (yk 121 false rfl rfl hc219) rfl ?_
 refine g_no (yk 121 false rfl rfl hc219) rfl ?_
 refine st (v:=.bool false) (x_pick_f (.tmp rfl (cVb hc219)) .const) ?_
 exact jw_end ⟨(cVb (jand_f hc219)),hρ212,hρ213,hρ214,hρ215,hρ216,hρ217,hs218⟩
 rintro ρ w ⟨hρ223,hρ224,hρ225,hρ226,hρ227,hρ228,hρ229,hs230⟩
 refine c_nil (n_then ?_)
 rcases Bool.eq_false_or_eq_true ((((decide ((((i2:Nat):Int):Int) ≠ (((who % tl.length):Nat):Int))) && (decide ((((e176.Kind:Nat):Int):Int) = 3))) && (decide ((e176.From:Int) = (((who % tl.length):Nat):Int)))) && (decide ((last:Int) < ((e176.View.ID.N:Nat):Int)))) with hc231 | hc231
 have hp231:((((((i2:Nat):Int):Int) ≠ (((who % tl.length):Nat):Int))∧((((e176.Kind:Nat):Int):Int) = 3))∧((e176.From:Int) = (((who % tl.length):Nat):Int)))∧((last:Int) < ((e176.View.ID.N:Nat):Int)):=((J_and (J_and (J_and decide_eq_true_iff decide_eq_true_iff) decide_eq_true_iff) decide_eq_true_iff)).1 hc231
 refine c_cond_t (t:=true) (.tmp rfl (hρ223.trans (cVb hc231))) rfl ?_
 refine c_region (st (v:=v_tl) (x_move (.tmp rfl hρ224)) ?_)
 refine st (v:=.int .i64 ((i2:Nat):Int)) (x_move (.tmp rfl hρ228)) ?_
 obtain ⟨g232,c233,hv234⟩:=ok_tl.pos (by omega)
 refine st (v:=.pointer (some ⟨g232,(i2 * 1),none⟩)) (ixo36 (.tmp rfl hv234) rfl (i:=((i2:Nat):Int)) (.tmp rfl rfl) (by omega) (by omega) (by omega)) ?_
 refine st (v:=.slice A160 n161 c162) (ld41 (.tmp rfl rfl) ((hs230.rowAt 1 rfl hv234 (i2 * 1) hsub159).cell 0 rfl)) ?_
 refine st (v:=.int .i64 ((j2:Nat):Int)) (x_move (.tmp rfl hρ229)) ?_
 refine st (v:=.pointer (some ⟨b177,(o178 + j2 * 6),none⟩)) (ixo41 (.tmp rfl rfl) hA181 (i:=((j2:Nat):Int)) (.tmp rfl rfl) (by omega) (by omega) (by omega)) ?_
 refine st (v:=.pointer (some ⟨b177,(o178 + j2 * 6) + 1,none⟩)) (fa49_1 (.tmp rfl rfl)) ?_
 refine st (v:=.pointer (some ⟨b177,(o178 + j2 * 6) + 1 + 0,none⟩)) (fa47_0 (.tmp rfl rfl)) ?_
 refine st (v:=.pointer (some ⟨b177,(o178 + j2 * 6) + 1 + 0 + 0,none⟩)) (fa44_0 (.tmp rfl rfl)) ?_
 refine st (v:=.int .u64 ((e176.View.ID.N:Nat):Int)) (ld42 (.tmp rfl rfl) ((hat183x hs230).cell 1 rfl)) ?_
 refine st (v:=.int .i64 ((e176.View.ID.N:Nat):Int)) (x_conv (k:=.u64) (a:=((e176.View.ID.N:Nat):Int)) Tryd.underlying42 Tryd.underlying3 (.tmp rfl rfl) (w64 (by omega) (by omega))) ?_
 refine st (v:=.int .i64 ((e176.View.ID.N:Nat):Int)) (x_assign (.tmp rfl rfl)) ?_
 refine c_nil (n_block (n_then (c_region (st (v:=.int .i64 ((j2:Nat):Int)) (x_move (.tmp rfl hρ229)) ?_))))
 refine st (v:=.int .i64 (((j2 + 1):Nat):Int)) (x_add (k:=.i64) (a:=((j2:Nat):Int)) (b:=1) (.tmp rfl rfl) .const ((w64 (by omega) (by omega)).trans (by omega))) ?_
 refine st (v:=.int .i64 (((j2 + 1):Nat):Int)) (x_assign (.tmp rfl rfl)) ?_
 refine c_nil ?_
 refine n_then ⟨_,_,rfl,?_,(j2 + 1),((e176.View.ID.N:Nat):Int),hρ224,hρ225,hρ226,rfl,hρ228,rfl,(by omega),(LA.mono hL (by omega)),(by omega),(fun h9 => LQj.next (LQj.mono (hL2 h9) (by omega)) hx180 (fun _ _ => Int.le_refl _)),((hs230.p1).p1),rfl⟩
 omega
 have hp231:¬ (((((((i2:Nat):Int):Int) ≠ (((who % tl.length):Nat):Int))∧((((e176.Kind:Nat):Int):Int) = 3))∧((e176.From:Int) = (((who % tl.length):Nat):Int)))∧((last:Int) < ((e176.View.ID.N:Nat):Int))):=J_no (J_and (J_and (J_and decide_eq_true_iff decide_eq_true_iff) decide_eq_true_iff) decide_eq_true_iff) hc231
 refine c_cond_f (t:=false) (.tmp rfl (hρ223.trans (cVb hc231))) rfl ?_
 refine c_skip (n_block (n_then (c_region (st (v:=.int .i64 ((j2:Nat):Int)) (x_move (.tmp rfl hρ229)) ?_))))
 refine st (v:=.int .i64 (((j2 + 1):Nat):Int)) (x_add (k:=.i64) (a:=((j2:Nat):Int)) (b:=1) (.tmp rfl rfl) .const ((w64 (by omega) (by omega)).trans (by omega))) ?_
 refine st (v:=.int .i64 (((j2 + 1):Nat):Int)) (x_assign (.tmp rfl rfl)) ?_
 refine c_nil ?_
 refine n_then ⟨_,_,rfl,?_,(j2 + 1),last,hρ224,hρ225,hρ226,hρ227,hρ228,rfl,(by omega),(by omega),(by omega),(fun h9 => LQj.next (hL2 h9) hx180 (fun h8 h7 => by omega)),((hs230.p1).p1),rfl⟩
 omega
 have hp175:¬ ((((j2:Nat):Int):Int) < ((n161:Nat):Int)):=of_decide_eq_false hc175
 refine c_cond_f (t:=false) (.tmp rfl (cVb hc175)) rfl ?_
 refine c_exit (x_then (x_then (x_here (n_block (n_then (c_region (st (v:=.int .i64 ((i2:Nat):Int)) (x_move (.tmp rfl hρ169)) ?_)))))))
 refine st (v:=.int .i64 (((i2 + 1):Nat):Int)) (x_add (k:=.i64) (a:=((i2:Nat):Int)) (b:=1) (.tmp rfl rfl) .const ((w64 (by omega) (by omega)).trans (by omega))) ?_
 refine st (v:=.int .i64 (((i2 + 1):Nat):Int)) (x_assign (.tmp rfl rfl)) ?_
 refine c_nil ?_
 refine n_then ⟨_,_,rfl,?_,(i2 + 1),last,hρ165,hρ166,hρ167,hρ168,rfl,(by omega),(LA.next hL hx157 (fun h9 => LQj.done (hL2 h9) (by omega))),(by omega),((hs171.p1).p1),rfl⟩
 omega
 have hp154:¬ ((((i2:Nat):Int):Int) < ((tl.length:Nat):Int)):=of_decide_eq_false hc154
 refine c_cond_f (t:=false) (.tmp rfl (cVb hc154)) rfl ?_
 refine c_exit (x_then (x_then (x_here (n_then (c_seq (c_seq (c_region (st (v:=mv) (x_move (.tmp rfl hρ146)) ?_))))))))
 obtain ⟨A235,c236,hv237,hc238⟩:=okm.slice
 refine st (v:=.int .i64 ((mp.length:Nat):Int)) (x_len (n:=mp.length) Tryd.underlying41 (.tmp rfl hv237)) ?_
 refine st (v:=.bool (decide ((0:Int) < ((mp.length:Nat):Int)))) (x_gtr (k:=.i64) (a:=((mp.length:Nat):Int)) (b:=0) (.tmp rfl rfl) .const) ?_
 refine st (v:=.bool (decide ((0:Int) < ((mp.length:Nat):Int)))) (x_move (.tmp rfl rfl)) ?_
 rcases Bool.eq_false_or_eq_true (decide ((0:Int) < ((mp.length:Nat):Int))) with hc239 | hc239
 have hp239:(0:Int) < ((mp.length:Nat):Int):=of_decide_eq_true hc239
 refine g_yes (yk 150 true rfl rfl hc239) ?_
 refine st (v:=.int .i64 last) (x_move (.tmp rfl hρ147)) ?_
 refine g_yes (yk 150 true rfl rfl hc239) ?_
 refine st (v:=mv) (x_move (.tmp rfl hρ146)) ?_
 refine g_yes (yk 150 true rfl rfl hc239) ?_
 obtain ⟨g240,c241,hv242⟩:=okm.pos (by omega)
 obtain ⟨e243,cs244,hx245,hr246,hsub247⟩:=Kn.rows_get (i:=0) hkm (by omega)
 obtain ⟨A255,n256,c257,rfl,b248,b249,⟨b250,b251⟩,b252,⟨b253,b254⟩,hy258⟩:=hr246
 have:=hy258.len; have:=hy258.bnd; have:=hy258.le
 have hN_e243:=less_ev (x:=e243) (by omega) htl9 hx73 (part_mem (by rw [← hmp]; exact List.mem_of_getElem? hx245))
 refine st (v:=.pointer (some ⟨g240,(0 * 6),none⟩)) (ixo41 (.tmp rfl hv242) rfl (i:=0) .const (by omega) (by omega) (by omega)) ?_
 refine g_yes (yk 150 true rfl rfl hc239) ?_
 refine st (v:=.pointer (some ⟨g240,(0 * 6) + 1,none⟩)) (fa49_1 (.tmp rfl rfl)) ?_
 refine g_yes (yk 150 true rfl rfl hc239) ?_
 refine st (v:=.pointer (some ⟨g240,(0 * 6) + 1 + 0,none⟩)) (fa47_0 (.tmp rfl rfl)) ?_
 refine g_yes (yk 150 true rfl rfl hc239) ?_
 refine st (v:=.pointer (some ⟨g240,(0 * 6) + 1 + 0 + 0,none⟩)) (fa44_0 (.tmp rfl rfl)) ?_
 refine g_yes (yk 150 true rfl rfl hc239) ?_
 refine st (v:=.int .u64 ((e243.View.ID.N:Nat):Int)) (ld42 (.tmp rfl rfl) ((hs149.rowAt 0 rfl hv242 (0 * 6) hsub247).cell 1 rfl)) ?_
 refine g_yes (yk 150 true rfl rfl hc239) ?_
 refine st (v:=.int .i64 ((e243.View.ID.N:Nat):Int)) (x_conv (k:=.u64) (a:=((e243.View.ID.N:Nat):Int)) Tryd.underlying42 Tryd.underlying3 (.tmp rfl rfl) (w64 (by omega) (by omega))) ?_
 refine g_yes (yk 150 true rfl rfl hc239) ?_
 refine st (v:=.bool (decide ((((e243.View.ID.N:Nat):Int):Int) < last))) (x_gtr (k:=.i64) (a:=last) (b:=((e243.View.ID.N:Nat):Int)) (.tmp rfl rfl) (.tmp rfl rfl)) ?_
 refine st (v:=.bool (decide ((((e243.View.ID.N:Nat):Int):Int) < last))) (x_pick_t (.tmp rfl (cVb hc239)) (.tmp rfl rfl)) ?_
 refine st (v:=.bool (decide ((((e243.View.ID.N:Nat):Int):Int) < last))) (x_move (.tmp rfl rfl)) ?_
 rcases Bool.eq_false_or_eq_true (decide ((((e243.View.ID.N:Nat):Int):Int) < last)) with hc259 | hc259
 have hp259:(((e243.View.ID.N:Nat):Int):Int) < last:=of_decide_eq_true hc259
 refine g_no (yk 161 true rfl rfl hc259) rfl ?_
 refine g_no (yk 161 true rfl rfl hc259) rfl ?_
 refine g_no (yk 161 true rfl rfl hc259) rfl ?_
 refine g_no (yk 161 true rfl rfl hc259) rfl ?_
 refine g_no0 (yn (dj:=165) rfl rfl) ?_
 refine g_no0 (yn (dj:=165) rfl rfl) ?_
 refine g_no (yk 161 true rfl rfl hc259) rfl ?_
 refine st (v:=.bool true) (x_pick_t (.tmp rfl (cVb hc259)) .const) ?_
 refine c_nil (n_then (c_cond_t (t:=true) (.tmp rfl rfl) rfl ?_))
 refine c_seq (c_region (st (v:=.bool true) (x_assign .const) ?_))
 refine c_nil (n_then (c_ret (r_then (leave_ret (res_one (v:=.bool true) rfl (.mk rfl rfl)) ?_))))
 exact ⟨rfl,(hs149.drop.drop.weaken (hle9.trans hg16))⟩
 have hp259:¬ ((((e243.View.ID.N:Nat):Int):Int) < last):=of_decide_eq_false hc259
 refine g_yes (yk 161 false rfl rfl hc259) ?_
 refine st (v:=mv) (x_move (.tmp rfl hρ146)) ?_
 refine g_yes (yk 161 false rfl rfl hc259) ?_
 obtain ⟨A260,c261,hv262,hc263⟩:=okm.slice
 refine st (v:=.int .i64 ((mp.length:Nat):Int)) (x_len (n:=mp.length) Tryd.underlying41 (.tmp rfl hv262)) ?_
 refine g_yes (yk 161 false rfl rfl hc259) ?_
 refine st (v:=.bool (decide ((((mp.length:Nat):Int):Int) = 0))) (x_eql (k:=.i64) (a:=((mp.length:Nat):Int)) (b:=0) (.tmp rfl rfl) .const) ?_
 refine g_yes (yk 161 false rfl rfl hc259) ?_
 refine st (v:=.bool (decide ((((mp.length:Nat):Int):Int) = 0))) (x_move (.tmp rfl rfl)) ?_
 have hc264:(decide ((((mp.length:Nat):Int):Int) = 0)) = false:=(decide_eq_false (by omega))
 have hp264:¬ ((((mp.length:Nat):Int):Int) = 0):=of_decide_eq_false hc264
 refine g_no (yk 165 false rfl rfl hc264) rfl ?_
 refine g_no (yk 165 false rfl rfl hc264) rfl ?_
 refine g_yes (yk 161 false rfl rfl hc259) ?_
 refine st (v:=.bool false) (x_pick_f (.tmp rfl (cVb hc264)) .const) ?_
 refine st (v:=.bool false) (x_pick_f (.tmp rfl (cVb hc259)) (.tmp rfl rfl)) ?_
 refine c_nil (n_then (c_cond_f (t:=false) (.tmp rfl rfl) rfl ?_))
 refine c_skip (n_then (c_seq (c_region (st (v:=v_tl) (x_move (.tmp rfl hρ144)) ?_))))
 refine st (v:=.int .i64 (((who % tl.length):Nat):Int)) (x_move (.tmp rfl hρ145)) ?_
 refine st (v:=mv) (x_move (.tmp rfl hρ146)) ?_
 obtain ⟨g265,c266,hv267⟩:=ok_tl.pos (by omega)
 refine st (v:=.pointer (some ⟨g265,((who % tl.length) * 1),none⟩)) (ixo36 (.tmp rfl hv267) rfl (i:=(((who % tl.length):Nat):Int)) (.tmp rfl rfl) (by omega) (by omega) (by omega)) ?_
 have hs268:=hs149.p1
 have hs274:=hs268.p1
 have:mp.length * 64 ≤ 140737488351232:=by omega
 obtain ⟨H275,A276,c277,hle278,hs279,rfl,sp280⟩:=hs274.freezeSl (d:=kEvent) okm hkm this
 have:=sp280.len; have:=sp280.le
 have hl281:(who % tl.length) * 1 + 1 ≤ c_tl.length:=by have h1:=((Kn.rows_mono hk_tl hle278)).1; have h2:(kSl kEvent).sz = 1:=rfl; rw [h2] at h1; omega
 have hr273:(kSl kEvent).rep H275 mp [.slice A276 mp.length c277]:=⟨A276,mp.length,c277,rfl,sp280⟩
 refine st_m0 (stor41 hs279 hv267 (i:=((who % tl.length) * 1)) (xs':=splice c_tl ((who % tl.length) * 1) [.slice A276 mp.length c277]) (.tmp rfl rfl) (u:=.slice A276 mp.length c277) (.tmp rfl rfl) rfl (by omega) one1 rfl) ?_
 rintro w269 hs270
 have hk272:=Kn.rows_set (d:=(kSl kEvent).toKn) (Kn.rows_mono hk_tl hle278) (i:=(who % tl.length)) (by omega) hr273
 have ok271:=ok_tl.splice (i:=(who % tl.length) * 1) (vs:=[.slice A276 mp.length c277]) (by simpa using hl281)
 have hn282:(tl.set (who % tl.length) mp).length = tl.length:=List.length_set
 have ok283:RowOk (kSl kEvent).sz v_tl (tl.set (who % tl.length) mp).length (splice c_tl ((who % tl.length) * 1) [.slice A276 mp.length c277]):=by rw [hn282]; exact ok271
 have hs284:St H275 w269 (row 41 1 v_tl ((tl.set (who % tl.length) mp).length) (splice c_tl ((who % tl.length) * 1) [.slice A276 mp.length c277])::L):=by rw [hn282]; exact hs270
 refine c_nil (n_then (c_seq (c_region (st (v:=v_tl) (x_move (.tmp rfl hρ144)) ?_))))
 have:(tl.set (who % tl.length) mp).length * 24 ≤ 140737488351232:=by omega
 obtain ⟨H285,A286,c287,hle288,hs289,rfl,sp290⟩:=hs284.freezeSl (d:=(kSl kEvent)) ok283 hk272 this
 have:=sp290.len; have:=sp290.le
 refine st_c cb15 .func (evs1 (.tmp rfl rfl)) (judge_spec hs289 (tl.set (who % tl.length) mp) sp290 (by rw [List.length_set]; omega) (set_small (fun e he => less_small traces_small e (by rw [← htl9]; exact he)) (by omega)) (htab.mono (((hle9.trans hg16).trans hle278).trans hle288))) ?_
 rintro e w291 ⟨H293,hle294,rfl,hs292⟩
 refine ⟨_,rfl,?_⟩
 refine st (v:=.bool (judgeV (tl.set (who % tl.length) mp))) (x_assign (.tmp rfl rfl)) ?_
 refine c_nil (n_then (c_ret (leave_ret (res_one (v:=.bool (judgeV (tl.set (who % tl.length) mp))) rfl (.mk rfl rfl)) ?_)))
 have hyes:(judgeV (tl.set (who % tl.length) mp)) = true:=by rw [judge_ref]; exact parts_ref (by omega) (by omega) (by omega) htl9 hx73 hmp (LA.done hL (by omega)) (fun h9 => absurd (congrArg List.length h9) (by rw [List.length_nil]; omega)) (fun a ha => by rw [hx245] at ha; cases ha; omega)
 rw [hyes]
 exact ⟨rfl,(hs292.weaken ((((hle9.trans hg16).trans hle278).trans hle288).trans hle294))⟩
 have hp239:¬ ((0:Int) < ((mp.length:Nat):Int)):=of_decide_eq_false hc239
 refine g_no (yk 150 false rfl rfl hc239) rfl ?_
 refine g_no (yk 150 false rfl rfl hc239) rfl ?_
 refine g_no (yk 150 false rfl rfl hc239) rfl ?_
 refine g_no (yk 150 false rfl rfl hc239) rfl ?_
 refine g_no (yk 150 false rfl rfl hc239) rfl ?_
 refine g_no (yk 150 false rfl rfl hc239) rfl ?_
 refine g_no (yk 150 false rfl rfl hc239) rfl ?_
 refine g_no (yk 150 false rfl rfl hc239) rfl ?_
 refine g_no (yk 150 false rfl rfl hc239) rfl ?_
 refine st (v:=.bool false) (x_pick_f (.tmp rfl (cVb hc239)) .const) ?_
 refine st (v:=.bool false) (x_move (.tmp rfl rfl)) ?_
 refine g_yes (yl (dj:=161) (b:=false) rfl rfl rfl) ?_
 refine st (v:=mv) (x_move (.tmp rfl hρ146)) ?_
 refine g_yes (yl (dj:=161) (b:=false) rfl rfl rfl) ?_
 obtain ⟨A295,c296,hv297,hc298⟩:=okm.slice
 refine st (v:=.int .i64 ((mp.length:Nat):Int)) (x_len (n:=mp.length) Tryd.underlying41 (.tmp rfl hv297)) ?_
 refine g_yes (yl (dj:=161) (b:=false) rfl rfl rfl) ?_
 refine st (v:=.bool (decide ((((mp.length:Nat):Int):Int) = 0))) (x_eql (k:=.i64) (a:=((mp.length:Nat):Int)) (b:=0) (.tmp rfl rfl) .const) ?_
 refine g_yes (yl (dj:=161) (b:=false) rfl rfl rfl) ?_
 refine st (v:=.bool (decide ((((mp.length:Nat):Int):Int) = 0))) (x_move (.tmp rfl rfl)) ?_
 have hc299:(decide ((((mp.length:Nat):Int):Int) = 0)) = true:=(decide_eq_true (by omega))
 have hp299:(((mp.length:Nat):Int):Int) = 0:=of_decide_eq_true hc299
 refine g_yes (yk 165 true rfl rfl hc299) ?_
 refine st (v:=.int .i64 last) (x_move (.tmp rfl hρ147)) ?_
 refine g_yes (yk 165 true rfl rfl hc299) ?_
 refine st (v:=.bool (decide ((0:Int) ≤ last))) (x_geq (k:=.i64) (a:=last) (b:=0) (.tmp rfl rfl) .const) ?_
 refine g_yes (yl (dj:=161) (b:=false) rfl rfl rfl) ?_
 refine st (v:=.bool (decide ((0:Int) ≤ last))) (x_pick_t (.tmp rfl (cVb hc299)) (.tmp rfl rfl)) ?_
 refine st (v:=.bool (decide ((0:Int) ≤ last))) (x_pick_f (.tmp rfl rfl) (.tmp rfl rfl)) ?_
 refine c_nil (n_then ?_)
 rcases Bool.eq_false_or_eq_true (decide ((0:Int) ≤ last)) with hc300 | hc300
 have hp300:(0:Int) ≤ last:=of_decide_eq_true hc300
 refine c_cond_t (t:=true) (.tmp rfl (cVb hc300)) rfl ?_
 refine c_seq (c_region (st (v:=.bool true) (x_assign .const) ?_))
 refine c_nil (n_then (c_ret (r_then (leave_ret (res_one (v:=.bool true) rfl (.mk rfl rfl)) ?_))))
 exact ⟨rfl,(hs149.drop.drop.weaken (hle9.trans hg16))⟩
 have hp300:¬ ((0:Int) ≤ last):=of_decide_eq_false hc300
 refine c_cond_f (t:=false) (.tmp rfl (cVb hc300)) rfl ?_
 refine c_skip (n_then (c_seq (c_region (st (v:=v_tl) (x_move (.tmp rfl hρ144)) ?_))))
 refine st (v:=.int .i64 (((who % tl.length):Nat):Int)) (x_move (.tmp rfl hρ145)) ?_
 refine st (v:=mv) (x_move (.tmp rfl hρ146)) ?_
 obtain ⟨g301,c302,hv303⟩:=ok_tl.pos (by omega)
 refine st (v:=.pointer (some ⟨g301,((who % tl.length) * 1),none⟩)) (ixo36 (.tmp rfl hv303) rfl (i:=(((who % tl.length):Nat):Int)) (.tmp rfl rfl) (by omega) (by omega) (by omega)) ?_
 have hs304:=hs149.p1
 have hs310:=hs304.p1
 have:mp.length * 64 ≤ 140737488351232:=by omega
 obtain ⟨H311,A312,c313,hle314,hs315,rfl,sp316⟩:=hs310.freezeSl (d:=kEvent) okm hkm this
 have:=sp316.len; have:=sp316.le
 have hl317:(who % tl.length) * 1 + 1 ≤ c_tl.length:=by have h1:=((Kn.rows_mono hk_tl hle314)).1; have h2:(kSl kEvent).sz = 1:=rfl; rw [h2] at h1; omega
 have hr309:(kSl kEvent).rep H311 mp [.slice A312 mp.length c313]:=⟨A312,mp.length,c313,rfl,sp316⟩
 refine st_m0 (stor41 hs315 hv303 (i:=((who % tl.length) * 1)) (xs':=splice c_tl ((who % tl.length) * 1) [.slice A312 mp.length c313]) (.tmp rfl rfl) (u:=.slice A312 mp.length c313) (.tmp rfl rfl) rfl (by omega) one1 rfl) ?_
 rintro w305 hs306
 have hk308:=Kn.rows_set (d:=(kSl kEvent).toKn) (Kn.rows_mono hk_tl hle314) (i:=(who % tl.length)) (by omega) hr309
 have ok307:=ok_tl.splice (i:=(who % tl.length) * 1) (vs:=[.slice A312 mp.length c313]) (by simpa using hl317)
 have hn318:(tl.set (who % tl.length) mp).length = tl.length:=List.length_set
 have ok319:RowOk (kSl kEvent).sz v_tl (tl.set (who % tl.length) mp).length (splice c_tl ((who % tl.length) * 1) [.slice A312 mp.length c313]):=by rw [hn318]; exact ok307
 have hs320:St H311 w305 (row 41 1 v_tl ((tl.set (who % tl.length) mp).length) (splice c_tl ((who % tl.length) * 1) [.slice A312 mp.length c313])::L):=by rw [hn318]; exact hs306
 refine c_nil (n_then (c_seq (c_region (st (v:=v_tl) (x_move (.tmp rfl hρ144)) ?_))))
 have:(tl.set (who % tl.length) mp).length * 24 ≤ 140737488351232:=by omega
 obtain ⟨H321,A322,c323,hle324,hs325,rfl,sp326⟩:=hs320.freezeSl (d:=(kSl kEvent)) ok319 hk308 this
 have:=sp326.len; have:=sp326.le
 refine st_c cb15 .func (evs1 (.tmp rfl rfl)) (judge_spec hs325 (tl.set (who % tl.length) mp) sp326 (by rw [List.length_set]; omega) (set_small (fun e he => less_small traces_small e (by rw [← htl9]; exact he)) (by omega)) (htab.mono (((hle9.trans hg16).trans hle314).trans hle324))) ?_
 rintro e w327 ⟨H329,hle330,rfl,hs328⟩
 refine ⟨_,rfl,?_⟩
 refine st (v:=.bool (judgeV (tl.set (who % tl.length) mp))) (x_assign (.tmp rfl rfl)) ?_
 refine c_nil (n_then (c_ret (leave_ret (res_one (v:=.bool (judgeV (tl.set (who % tl.length) mp))) rfl (.mk rfl rfl)) ?_)))
 have hyes:(judgeV (tl.set (who % tl.length) mp)) = true:=by rw [judge_ref]; exact parts_ref (by omega) (by omega) (by omega) htl9 hx73 hmp (LA.done hL (by omega)) (fun _ => by omega) (fun a ha => absurd (List.getElem?_eq_some_iff.1 ha).1 (by omega))
 rw [hyes]
 exact ⟨rfl,(hs328.weaken ((((hle9.trans hg16).trans hle314).trans hle324).trans hle330))⟩
end Go.Proofs.YtnikcgcbkdeeeaaDoor
