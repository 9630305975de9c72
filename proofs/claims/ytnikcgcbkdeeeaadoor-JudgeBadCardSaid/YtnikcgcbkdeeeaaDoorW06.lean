/- Steps of the proofs over the functions of this seat, printed by a program (gen.py) and checked by Lean. -/
import Derived.Test.YtnikcgcbkdeeeaaDoorW01
import Derived.Test.YtnikcgcbkdeeeaaDoorW00
import Derived.Test.YtnikcgcbkdeeeaaDoorW02
import Derived.Test.YtnikcgcbkdeeeaaDoorW05
set_option linter.unusedVariables false
set_option linter.unusedSimpArgs false
namespace Go.Proofs.YtnikcgcbkdeeeaaDoor
open Go Go.FM Go.Proofs
attribute [local irreducible] wpList wpQuiet Code.wp Calls
set_option maxHeartbeats 8000000 in
theorem inview14_spec {H:Hp} {w:World} {L:List Res} (hs:St H w (L)) {A_tr:Option Addr} {n_tr c_tr:Nat} (tr:(List (List GEvent))) (h_tr:Sl (kSl kEvent) H A_tr n_tr c_tr tr) (i:Nat) (v:GView) {k_v:List Value} (h_v:kView.rep H v k_v) (hin:i < tr.length):Calls Tryd.prog 37 #[.slice A_tr n_tr c_tr,.int .i64 ((i:Nat):Int),.agg k_v.toArray] w (fun e w' => ∃ (H':Hp),H.le H'∧e = .returned (.bool (inviewT tr i v))∧St H' w' (L)):=by
 have:=h_tr.len; have:=h_tr.le; have:n_tr * 24 ≤ 140737488351232:=h_tr.bnd
 obtain ⟨rfl,b1,⟨b2,b3⟩,b4⟩:=h_v
 refine enter (args:=[.slice A_tr n_tr c_tr,.int .i64 ((i:Nat):Int),.agg #[.int .u64 ((v.ID.N:Nat):Int),.int .i64 v.ID.P,.int .u16 ((v.Set:Nat):Int)]]) (N:=178) Tryd.func37 rfl rfl rfl ?_
 refine c_seq (c_region ?_)
 obtain ⟨e5,b6,o7,cs8,hx9,hA10,hr11,hat12⟩:=h_tr.get (i:=i) (by omega)
 obtain ⟨A13,n14,c15,rfl,hl16⟩:=hr11
 have:=hl16.len; have:n14 * 64 ≤ 140737488351232:=hl16.bnd; have:=hl16.le
 have hat12x:∀ {w:World} {L:List Res},St H w L → At w ⟨b6,o7 + i * 1,none⟩ [.slice A13 n14 c15]:=fun h => hat12 h
 skip
 refine st_m (m_box (cs:=[.int .u64 ((v.ID.N:Nat):Int),.int .i64 v.ID.P,.int .u16 ((v.Set:Nat):Int)]) hs (v:=.agg #[.int .u64 ((v.ID.N:Nat):Int),.int .i64 v.ID.P,.int .u16 ((v.Set:Nat):Int)]) (.tmp rfl rfl) rfl) ?_
 rintro _ w18 ⟨g17,rfl,hs20⟩
 refine st (v:=.bool false) (x_assign .const) ?_
 refine c_nil (n_then (c_seq (u_region (L:=obj g17 47 [.int .u64 ((v.ID.N:Nat):Int),.int .i64 v.ID.P,.int .u16 ((v.Set:Nat):Int)]::L) (L':=obj g17 47 [.int .u64 ((v.ID.N:Nat):Int),.int .i64 v.ID.P,.int .u16 ((v.Set:Nat):Int)]::L) (Z:=[7]) (F:=[]) (Lw:=obj g17 47 [.int .u64 ((v.ID.N:Nat):Int),.int .i64 v.ID.P,.int .u16 ((v.Set:Nat):Int)]::L) (pl:=(.q 0 (.q 1 (.q 2 (.q 3 (.q 4 (.q 5 (.q 6 (.e 7 (.q 8 .done)))))))))) mixed hs20 (fun u hu => hu) (fun u hu => hu) (by kernel_rfl) ?_)))
 intro w21 hs22
 refine u_st (k:=0) (v:=.slice A_tr n_tr c_tr) rfl rfl (fun w hs => (x_move (.tmp rfl rfl))) ?_
 refine u_st (k:=1) (v:=.int .i64 ((i:Nat):Int)) rfl rfl (fun w hs => (x_move (.tmp rfl rfl))) ?_
 refine u_st (k:=2) (v:=.pointer (some ⟨b6,(o7 + i * 1),none⟩)) rfl rfl (fun w hs => (ixo36 (.tmp rfl rfl) hA10 (i:=((i:Nat):Int)) (.tmp rfl rfl) (by omega) (by omega) (by omega))) ?_
 refine u_st (k:=3) (v:=.slice A13 n14 c15) rfl rfl (fun w hs => (ld41 (.tmp rfl rfl) ((hat12x hs).cell 0 rfl))) ?_
 refine u_st (k:=4) (v:=.int .i64 ((i:Nat):Int)) rfl rfl (fun w hs => (x_move (.tmp rfl rfl))) ?_
 refine u_st (k:=5) (v:=.pointer (some ⟨g17,0 + 0,none⟩)) rfl rfl (fun w hs => (fa47_0 (.tmp rfl rfl))) ?_
 refine u_st (k:=6) (v:=.agg #[.int .u64 ((v.ID.N:Nat):Int),.int .i64 v.ID.P]) rfl rfl (fun w hs => (ld44 (cs:=[.int .u64 ((v.ID.N:Nat):Int),.int .i64 v.ID.P]) (.tmp rfl rfl) (hs.at_ 0 rfl (0 + 0) rfl) rfl)) ?_
 refine u_eff (k:=7) rfl ?_
 have hr23:kViewID.rep H v.ID [.int .u64 ((v.ID.N:Nat):Int),.int .i64 v.ID.P]:=⟨rfl,b1,⟨b2,b3⟩⟩
 refine st_c cb43 .func (evs4 (.tmp rfl rfl) (.tmp rfl rfl) .const (.tmp rfl rfl)) (items14_spec hs22 e5 hl16 ((i:Nat):Int) ⟨by omega,by omega⟩ 3 (by decide) v.ID hr23 ) ?_
 rintro e w24 ⟨H26,A28,n29,c30,hle27,rfl,sp31,hs25⟩
 have:=sp31.len; have:=sp31.le; have:n29 * 32 ≤ 140737488351232:=sp31.bnd
 refine ⟨_,rfl,?_⟩
 refine u_new (S':=fun u => St H26 u (obj g17 47 [.int .u64 ((v.ID.N:Nat):Int),.int .i64 v.ID.P,.int .u16 ((v.Set:Nat):Int)]::L)) rfl (fun u hu => hu.weaken hle27) hs25 ?_
 refine u_st (k:=8) (v:=.slice A28 n29 c30) rfl rfl (fun w hs => (x_assign (.tmp rfl rfl))) ?_
 refine u_nil ?_
 refine n_then (c_seq (u_region (L:=obj g17 47 [.int .u64 ((v.ID.N:Nat):Int),.int .i64 v.ID.P,.int .u16 ((v.Set:Nat):Int)]::L) (L':=obj g17 47 [.int .u64 ((v.ID.N:Nat):Int),.int .i64 v.ID.P,.int .u16 ((v.Set:Nat):Int)]::L) (Z:=[7]) (F:=[]) (Lw:=obj g17 47 [.int .u64 ((v.ID.N:Nat):Int),.int .i64 v.ID.P,.int .u16 ((v.Set:Nat):Int)]::L) (pl:=(.q 0 (.q 1 (.q 2 (.q 3 (.q 4 (.q 5 (.q 6 (.e 7 (.q 8 (.q 9 .done))))))))))) mixed hs25 (fun u hu => hu) (fun u hu => hu) (by kernel_rfl) ?_))
 intro w32 hs33
 refine u_st (k:=0) (v:=.slice A_tr n_tr c_tr) rfl rfl (fun w hs => (x_move (.tmp rfl rfl))) ?_
 refine u_st (k:=1) (v:=.int .i64 ((i:Nat):Int)) rfl rfl (fun w hs => (x_move (.tmp rfl rfl))) ?_
 refine u_st (k:=2) (v:=.pointer (some ⟨b6,(o7 + i * 1),none⟩)) rfl rfl (fun w hs => (ixo36 (.tmp rfl rfl) hA10 (i:=((i:Nat):Int)) (.tmp rfl rfl) (by omega) (by omega) (by omega))) ?_
 refine u_st (k:=3) (v:=.slice A13 n14 c15) rfl rfl (fun w hs => (ld41 (.tmp rfl rfl) ((hat12x (hs.weaken hle27)).cell 0 rfl))) ?_
 refine u_st (k:=4) (v:=.int .i64 ((i:Nat):Int)) rfl rfl (fun w hs => (x_move (.tmp rfl rfl))) ?_
 refine u_st (k:=5) (v:=.pointer (some ⟨g17,0 + 0,none⟩)) rfl rfl (fun w hs => (fa47_0 (.tmp rfl rfl))) ?_
 refine u_st (k:=6) (v:=.agg #[.int .u64 ((v.ID.N:Nat):Int),.int .i64 v.ID.P]) rfl rfl (fun w hs => (ld44 (cs:=[.int .u64 ((v.ID.N:Nat):Int),.int .i64 v.ID.P]) (.tmp rfl rfl) (hs.at_ 0 rfl (0 + 0) rfl) rfl)) ?_
 refine u_eff (k:=7) rfl ?_
 have hr34:kViewID.rep H26 v.ID [.int .u64 ((v.ID.N:Nat):Int),.int .i64 v.ID.P]:=⟨rfl,b1,⟨b2,b3⟩⟩
 refine st_c cb43 .func (evs4 (.tmp rfl rfl) (.tmp rfl rfl) .const (.tmp rfl rfl)) (items14_spec hs33 e5 (hl16.mono hle27) ((i:Nat):Int) ⟨by omega,by omega⟩ 4 (by decide) v.ID hr34 ) ?_
 rintro e w35 ⟨H37,A39,n40,c41,hle38,rfl,sp42,hs36⟩
 have:=sp42.len; have:=sp42.le; have:n40 * 32 ≤ 140737488351232:=sp42.bnd
 refine ⟨_,rfl,?_⟩
 refine u_new (S':=fun u => St H37 u (obj g17 47 [.int .u64 ((v.ID.N:Nat):Int),.int .i64 v.ID.P,.int .u16 ((v.Set:Nat):Int)]::L)) rfl (fun u hu => hu.weaken hle38) hs36 ?_
 refine u_st (k:=8) (v:=.int .i64 ((n40:Nat):Int)) rfl rfl (fun w hs => (x_len (n:=n40) Tryd.underlying25 (.tmp rfl rfl))) ?_
 refine u_st (k:=9) (v:=.int .i64 ((n40:Nat):Int)) rfl rfl (fun w hs => (x_assign (.tmp rfl rfl))) ?_
 refine u_nil ?_
 refine n_then (c_seq (c_seq (c_region (st (v:=.int .i64 0) (x_assign .const) ?_))))
 refine c_nil (n_then (c_block (c_loop (fun ρ w mm => ∃ (k:Nat),ρ 0 = .slice A_tr n_tr c_tr∧ρ 1 = .int .i64 ((i:Nat):Int)∧ρ 5 = .pointer (some ⟨g17,0,none⟩)∧ρ 7 = .slice A28 n29 c30∧ρ 8 = .int .i64 ((n40:Nat):Int)∧ρ 9 = .int .i64 ((k:Nat):Int)∧(k ≤ (itemsT e5 ((i:Nat):Int) 3 v.ID).length)∧(∀ (k':Nat) (x:GItem),k' < k → (itemsT e5 ((i:Nat):Int) 3 v.ID)[k']? = some x → 0 ≤ x.From∧x.From < (tr.length:Int))∧St H37 w (obj g17 47 [.int .u64 ((v.ID.N:Nat):Int),.int .i64 v.ID.P,.int .u16 ((v.Set:Nat):Int)]::L)∧mm = (itemsT e5 ((i:Nat):Int) 3 v.ID).length - k) _ ⟨0,rfl,rfl,rfl,rfl,rfl,rfl,(by omega),(fun j x h => absurd h (Nat.not_lt_zero _)),hs36,rfl⟩ ?_)))
 rintro ρ w mm ⟨k,hρ44,hρ45,hρ46,hρ47,hρ48,hρ49,hk,hfr,hs50,rfl⟩
 refine c_seq (c_seq (c_region (st (v:=.int .i64 ((k:Nat):Int)) (x_move (.tmp rfl hρ49)) ?_)))
 refine st (v:=.slice A28 n29 c30) (x_move (.tmp rfl hρ47)) ?_
 refine st (v:=.int .i64 ((n29:Nat):Int)) (x_len (n:=n29) Tryd.underlying25 (.tmp rfl rfl)) ?_
 refine st (v:=.bool (decide ((((k:Nat):Int):Int) < ((n29:Nat):Int)))) (x_lss (k:=.i64) (a:=((k:Nat):Int)) (b:=((n29:Nat):Int)) (.tmp rfl rfl) (.tmp rfl rfl)) ?_
 refine c_nil (n_then ?_)
 rcases Bool.eq_false_or_eq_true (decide ((((k:Nat):Int):Int) < ((n29:Nat):Int))) with hc51 | hc51
 have hp51:(((k:Nat):Int):Int) < ((n29:Nat):Int):=of_decide_eq_true hc51
 refine c_cond_t (t:=true) (.tmp rfl (cVb hc51)) rfl ?_
 refine c_skip (n_then (c_seq (c_block (c_seq (c_region (st (v:=.slice A28 n29 c30) (x_move (.tmp rfl hρ47)) ?_))))))
 refine st (v:=.int .i64 ((k:Nat):Int)) (x_move (.tmp rfl hρ49)) ?_
 obtain ⟨e52,b53,o54,cs55,hx56,hA57,hr58,hat59⟩:=(sp31.mono hle38).get (i:=k) (by omega)
 obtain ⟨A62,n63,c64,rfl,⟨b60,b61⟩,hy65⟩:=hr58
 have:=hy65.len; have:=hy65.bnd; have:=hy65.le
 have hat59x:∀ {w:World} {L:List Res},St H37 w L → At w ⟨b53,o54 + k * 2,none⟩ [.int .i64 e52.From,.slice A62 n63 c64]:=fun h => hat59 h
 refine st (v:=.pointer (some ⟨b53,(o54 + k * 2),none⟩)) (ixo25 (.tmp rfl rfl) hA57 (i:=((k:Nat):Int)) (.tmp rfl rfl) (by omega) (by omega) (by omega)) ?_
 refine st (v:=.pointer (some ⟨b53,(o54 + k * 2) + 0,none⟩)) (fa34_0 (.tmp rfl rfl)) ?_
 refine st (v:=.int .i64 e52.From) (ld3 (.tmp rfl rfl) ((hat59x hs50).cell 0 rfl)) ?_
 refine st (v:=.bool (decide ((e52.From:Int) < 0))) (x_lss (k:=.i64) (a:=e52.From) (b:=0) (.tmp rfl rfl) .const) ?_
 refine st (v:=.bool (decide ((e52.From:Int) < 0))) (x_move (.tmp rfl rfl)) ?_
 refine jw 9 (fun ρ w => ρ 55 = .bool ((decide ((e52.From:Int) < 0)) || (decide ((((n_tr:Nat):Int):Int) ≤ e52.From)))∧ρ 0 = .slice A_tr n_tr c_tr∧ρ 1 = .int .i64 ((i:Nat):Int)∧ρ 5 = .pointer (some ⟨g17,0,none⟩)∧ρ 7 = .slice A28 n29 c30∧ρ 8 = .int .i64 ((n40:Nat):Int)∧ρ 9 = .int .i64 ((k:Nat):Int)∧St H37 w (obj g17 47 [.int .u64 ((v.ID.N:Nat):Int),.int .i64 v.ID.P,.int .u16 ((v.Set:Nat):Int)]::L)) ?_ ?_
 rcases Bool.eq_false_or_eq_true (decide ((e52.From:Int) < 0)) with hc66 | hc66
 have hp66:(e52.From:Int) < 0:=of_decide_eq_true hc66
 refine g_no (yk 46 true rfl rfl hc66) rfl ?_
 refine g_no (yk 46 true rfl rfl hc66) rfl ?_
 refine g_no (yk 46 true rfl rfl hc66) rfl ?_
 refine g_no (yk 46 true rfl rfl hc66) rfl ?_
 refine g_no (yk 46 true rfl rfl hc66) rfl ?_
 refine g_no (yk 46 true rfl rfl hc66) rfl ?_
 refine g_no (yk 46 true rfl rfl hc66) rfl ?_
 refine g_no (yk 46 true rfl rfl hc66) rfl ?_
 refine st (v:=.bool true) (x_pick_t (.tmp rfl (cVb hc66)) .const) ?_
 exact jw_end ⟨(cVb (jor_t hc66)),hρ44,hρ45,hρ46,hρ47,hρ48,hρ49,hs50⟩
 have hp66:¬ ((e52.From:Int) < 0):=of_decide_eq_false hc66
 refine g_yes (yk 46 false rfl rfl hc66) ?_
 refine st (v:=.slice A28 n29 c30) (x_move (.tmp rfl hρ47)) ?_
 refine g_yes (yk 46 false rfl rfl hc66) ?_
 refine st (v:=.int .i64 ((k:Nat):Int)) (x_move (.tmp rfl hρ49)) ?_
 refine g_yes (yk 46 false rfl rfl hc66) ?_
 refine st (v:=.pointer (some ⟨b53,(o54 + k * 2),none⟩)) (ixo25 (.tmp rfl rfl) hA57 (i:=((k:Nat):Int)) (.tmp rfl rfl) (by omega) (by omega) (by omega)) ?_
 refine g_yes (yk 46 false rfl rfl hc66) ?_
 refine st (v:=.pointer (some ⟨b53,(o54 + k * 2) + 0,none⟩)) (fa34_0 (.tmp rfl rfl)) ?_
 refine g_yes (yk 46 false rfl rfl hc66) ?_
 refine st (v:=.int .i64 e52.From) (ld3 (.tmp rfl rfl) ((hat59x hs50).cell 0 rfl)) ?_
 refine g_yes (yk 46 false rfl rfl hc66) ?_
 refine st (v:=.slice A_tr n_tr c_tr) (x_move (.tmp rfl hρ44)) ?_
 refine g_yes (yk 46 false rfl rfl hc66) ?_
 refine st (v:=.int .i64 ((n_tr:Nat):Int)) (x_len (n:=n_tr) Tryd.underlying36 (.tmp rfl rfl)) ?_
 refine g_yes (yk 46 false rfl rfl hc66) ?_
 refine st (v:=.bool (decide ((((n_tr:Nat):Int):Int) ≤ e52.From))) (x_geq (k:=.i64) (a:=e52.From) (b:=((n_tr:Nat):Int)) (.tmp rfl rfl) (.tmp rfl rfl)) ?_
 refine st (v:=.bool (decide ((((n_tr:Nat):Int):Int) ≤ e52.From))) (x_pick_f (.tmp rfl (cVb hc66)) (.tmp rfl rfl)) ?_
 exact jw_end ⟨(cVb (jor_f hc66)),hρ44,hρ45,hρ46,hρ47,hρ48,hρ49,hs50⟩
 rintro ρ w ⟨hρ67,hρ68,hρ69,hρ70,hρ71,hρ72,hρ73,hs74⟩
 refine c_nil (n_then ?_)
 rcases Bool.eq_false_or_eq_true ((decide ((e52.From:Int) < 0)) || (decide ((((n_tr:Nat):Int):Int) ≤ e52.From))) with hc75 | hc75
 have hp75:((e52.From:Int) < 0) ∨ ((((n_tr:Nat):Int):Int) ≤ e52.From):=((J_or decide_eq_true_iff decide_eq_true_iff)).1 hc75
 refine c_cond_t (t:=true) (.tmp rfl (hρ67.trans (cVb hc75))) rfl ?_
 refine c_seq (c_region (st (v:=.bool false) (x_assign .const) ?_))
 refine c_nil (n_then (c_ret (r_block (r_then (r_then (r_block (r_then (leave_ret (res_one (v:=.bool false) rfl (.mk rfl rfl)) ?_))))))))
 have hans76:inviewT tr i v = false:=inview_no1 hx9 hx56 (by have h9:=hc75; simp at h9; omega)
 rw [hans76]
 exact ⟨H37,(hle27.trans hle38),rfl,hs74.drop⟩
 have hp75:¬ (((e52.From:Int) < 0) ∨ ((((n_tr:Nat):Int):Int) ≤ e52.From)):=J_no (J_or decide_eq_true_iff decide_eq_true_iff) hc75
 refine c_cond_f (t:=false) (.tmp rfl (hρ67.trans (cVb hc75))) rfl ?_
 refine c_skip (n_block (n_then (c_region (st (v:=.int .i64 ((k:Nat):Int)) (x_move (.tmp rfl hρ73)) ?_))))
 refine st (v:=.int .i64 (((k + 1):Nat):Int)) (x_add (k:=.i64) (a:=((k:Nat):Int)) (b:=1) (.tmp rfl rfl) .const ((w64 (by omega) (by omega)).trans (by omega))) ?_
 refine st (v:=.int .i64 (((k + 1):Nat):Int)) (x_assign (.tmp rfl rfl)) ?_
 refine c_nil ?_
 refine n_then ⟨_,_,rfl,?_,(k + 1),hρ68,hρ69,hρ70,hρ71,hρ72,rfl,(by omega),(from_next (p:=fun _ x => 0 ≤ x.From∧x.From < (tr.length:Int)) hfr hx56 (by have h9:=hc75; simp at h9; omega)),hs74,rfl⟩
 omega
 have hp51:¬ ((((k:Nat):Int):Int) < ((n29:Nat):Int)):=of_decide_eq_false hc51
 refine c_cond_f (t:=false) (.tmp rfl (cVb hc51)) rfl ?_
 refine c_exit (x_then (x_then (x_here (n_then (c_seq (c_seq (c_region (st (v:=.int .i64 0) (x_assign .const) ?_))))))))
 refine c_nil (n_then (c_block (c_loop (fun ρ w mm => ∃ (H77:Hp) (j:Nat),ρ 0 = .slice A_tr n_tr c_tr∧ρ 1 = .int .i64 ((i:Nat):Int)∧ρ 5 = .pointer (some ⟨g17,0,none⟩)∧ρ 7 = .slice A28 n29 c30∧ρ 8 = .int .i64 ((n40:Nat):Int)∧ρ 10 = .int .i64 ((j:Nat):Int)∧(H37.le H77)∧(j ≤ tr.length)∧(∀ j':Nat,j' < j → seeT tr i v j' = true)∧St H77 w (obj g17 47 [.int .u64 ((v.ID.N:Nat):Int),.int .i64 v.ID.P,.int .u16 ((v.Set:Nat):Int)]::L)∧mm = tr.length - j) _ ⟨H37,0,hρ44,hρ45,hρ46,hρ47,hρ48,rfl,(Hp.le.refl _),(by omega),(fun j h => absurd h (Nat.not_lt_zero _)),hs50,rfl⟩ ?_)))
 rintro ρ w mm ⟨H77,j,hρ79,hρ80,hρ81,hρ82,hρ83,hρ84,hg78,hj,hse,hs85,rfl⟩
 refine c_seq (c_seq (c_region (st (v:=.int .i64 ((j:Nat):Int)) (x_move (.tmp rfl hρ84)) ?_)))
 refine st (v:=.slice A_tr n_tr c_tr) (x_move (.tmp rfl hρ79)) ?_
 refine st (v:=.int .i64 ((n_tr:Nat):Int)) (x_len (n:=n_tr) Tryd.underlying36 (.tmp rfl rfl)) ?_
 refine st (v:=.bool (decide ((((j:Nat):Int):Int) < ((n_tr:Nat):Int)))) (x_lss (k:=.i64) (a:=((j:Nat):Int)) (b:=((n_tr:Nat):Int)) (.tmp rfl rfl) (.tmp rfl rfl)) ?_
 refine c_nil (n_then ?_)
 rcases Bool.eq_false_or_eq_true (decide ((((j:Nat):Int):Int) < ((n_tr:Nat):Int))) with hc86 | hc86
 have hp86:(((j:Nat):Int):Int) < ((n_tr:Nat):Int):=of_decide_eq_true hc86
 refine c_cond_t (t:=true) (.tmp rfl (cVb hc86)) rfl ?_
 refine c_skip (n_then (c_seq (c_block (c_seq (u_region (L:=obj g17 47 [.int .u64 ((v.ID.N:Nat):Int),.int .i64 v.ID.P,.int .u16 ((v.Set:Nat):Int)]::L) (L':=obj g17 47 [.int .u64 ((v.ID.N:Nat):Int),.int .i64 v.ID.P,.int .u16 ((v.Set:Nat):Int)]::L) (Z:=[6,11]) (F:=[9]) (Lw:=obj g17 47 [.int .u64 ((v.ID.N:Nat):Int),.int .i64 v.ID.P,.int .u16 ((v.Set:Nat):Int)]::L) (pl:=(.q 0 (.q 1 (.q 2 (.q 3 (.q 4 (.q 5 (.two 6 (.q 7 (.q 8 (.q 9 (.e 10 (.e 11 (.q 12 .done)))))) 10 (.e 6 (.q 7 (.q 8 (.q 9 (.e 11 (.q 12 .done)))))))))))))) mixed hs85 (fun u hu => hu) (fun u hu => hu) (by kernel_rfl) ?_)))))
 intro w87 hs88
 refine u_st (k:=0) (v:=.slice A_tr n_tr c_tr) rfl rfl (fun w hs => (x_move (.tmp rfl hρ79))) ?_
 refine u_st (k:=1) (v:=.int .i64 ((j:Nat):Int)) rfl rfl (fun w hs => (x_move (.tmp rfl hρ84))) ?_
 obtain ⟨e89,b90,o91,cs92,hx93,hA94,hr95,hat96⟩:=(((h_tr.mono hle27).mono hle38).mono hg78).get (i:=j) (by omega)
 obtain ⟨A97,n98,c99,rfl,hl100⟩:=hr95
 have:=hl100.len; have:n98 * 64 ≤ 140737488351232:=hl100.bnd; have:=hl100.le
 have hat96x:∀ {w:World} {L:List Res},St H77 w L → At w ⟨b90,o91 + j * 1,none⟩ [.slice A97 n98 c99]:=fun h => hat96 h
 refine u_st (k:=2) (v:=.pointer (some ⟨b90,(o91 + j * 1),none⟩)) rfl rfl (fun w hs => (ixo36 (.tmp rfl rfl) hA94 (i:=((j:Nat):Int)) (.tmp rfl rfl) (by omega) (by omega) (by omega))) ?_
 refine u_st (k:=3) (v:=.slice A97 n98 c99) rfl rfl (fun w hs => (ld41 (.tmp rfl rfl) ((hat96x hs).cell 0 rfl))) ?_
 refine u_st (k:=4) (v:=.pointer (some ⟨g17,0 + 0,none⟩)) rfl rfl (fun w hs => (fa47_0 (.tmp rfl hρ81))) ?_
 refine u_st (k:=5) (v:=.agg #[.int .u64 ((v.ID.N:Nat):Int),.int .i64 v.ID.P]) rfl rfl (fun w hs => (ld44 (cs:=[.int .u64 ((v.ID.N:Nat):Int),.int .i64 v.ID.P]) (.tmp rfl rfl) (hs.at_ 0 rfl (0 + 0) rfl) rfl)) ?_
 refine u_two ?_ ?_
 refine u_eff (k:=6) rfl ?_
 have hr101:kViewID.rep H77 v.ID [.int .u64 ((v.ID.N:Nat):Int),.int .i64 v.ID.P]:=⟨rfl,b1,⟨b2,b3⟩⟩
 refine st_c cb44 .func (evs2 (.tmp rfl rfl) (.tmp rfl rfl)) (has14_spec hs88 e89 hl100 v.ID hr101 ) ?_
 rintro e w102 ⟨H104,cs106,hle105,rfl,hr107,hs103⟩
 obtain ⟨rfl,b108,⟨b109,b110⟩,b111⟩:=hr107
 refine ⟨_,rfl,?_⟩
 refine u_new (S':=fun u => St H104 u (obj g17 47 [.int .u64 ((v.ID.N:Nat):Int),.int .i64 v.ID.P,.int .u16 ((v.Set:Nat):Int)]::L)) rfl (fun u hu => hu.weaken hle105) hs103 ?_
 refine u_st (k:=7) (v:=.tuple #[.agg #[.int .u64 ((((((hasT e89 v.ID).getD view0).ID).N):Nat):Int),.int .i64 ((((hasT e89 v.ID).getD view0).ID).P),.int .u16 (((((hasT e89 v.ID).getD view0).Set):Nat):Int)],.bool ((hasT e89 v.ID).isSome)]) rfl rfl (fun w hs => (x_move (.tmp rfl rfl))) ?_
 refine u_st (k:=8) (v:=.agg #[.int .u64 ((((((hasT e89 v.ID).getD view0).ID).N):Nat):Int),.int .i64 ((((hasT e89 v.ID).getD view0).ID).P),.int .u16 (((((hasT e89 v.ID).getD view0).Set):Nat):Int)]) rfl rfl (fun w hs => (x_extract (.tmp rfl rfl) (i:=0) rfl)) ?_
 refine u_fr (k:=9) (v:=.bool ((hasT e89 v.ID).isSome)) rfl rfl (fun w hs => (x_extract (.tmp rfl rfl) (i:=1) rfl)) ?_
 refine u_eff (k:=10) rfl ?_
 refine st_m (al47 (cs:=[.int .u64 0,.int .i64 0,.int .u16 0]) hs103 rfl) ?_
 rintro _ w113 ⟨g112,rfl,hs115⟩
 refine u_on (S':=fun u => St H104 u (obj g112 47 [.int .u64 0,.int .i64 0,.int .u16 0]::obj g17 47 [.int .u64 ((v.ID.N:Nat):Int),.int .i64 v.ID.P,.int .u16 ((v.Set:Nat):Int)]::L)) (fun u hu => hu.drop) (fun u hu => hu.drop.weaken hle105) hs115 ?_
 refine u_eff (k:=11) rfl ?_
 refine st_m0 (sto47 (cs':=[.int .u64 ((((((hasT e89 v.ID).getD view0).ID).N):Nat):Int),.int .i64 ((((hasT e89 v.ID).getD view0).ID).P),.int .u16 (((((hasT e89 v.ID).getD view0).Set):Nat):Int)]) (i:=0) hs115 (v:=.agg #[.int .u64 ((((((hasT e89 v.ID).getD view0).ID).N):Nat):Int),.int .i64 ((((hasT e89 v.ID).getD view0).ID).P),.int .u16 (((((hasT e89 v.ID).getD view0).Set):Nat):Int)]) (.tmp rfl rfl) (.tmp rfl rfl) rfl (Nat.le_of_ble_eq_true rfl) (oneA rfl) rfl) ?_
 rintro w116 hs118
 refine u_new (S':=fun u => St H104 u (obj g112 47 [.int .u64 ((((((hasT e89 v.ID).getD view0).ID).N):Nat):Int),.int .i64 ((((hasT e89 v.ID).getD view0).ID).P),.int .u16 (((((hasT e89 v.ID).getD view0).Set):Nat):Int)]::obj g17 47 [.int .u64 ((v.ID.N:Nat):Int),.int .i64 v.ID.P,.int .u16 ((v.Set:Nat):Int)]::L)) rfl (fun u hu => hu.drop.weaken hle105) hs118 ?_
 refine u_st (k:=12) (v:=.bool ((hasT e89 v.ID).isSome)) rfl rfl (fun w hs => (x_assign (.tmp rfl rfl))) ?_
 refine u_nil ?_
 refine n_then (c_seq (u_region (L:=obj g112 47 [.int .u64 ((((((hasT e89 v.ID).getD view0).ID).N):Nat):Int),.int .i64 ((((hasT e89 v.ID).getD view0).ID).P),.int .u16 (((((hasT e89 v.ID).getD view0).Set):Nat):Int)]::obj g17 47 [.int .u64 ((v.ID.N:Nat):Int),.int .i64 v.ID.P,.int .u16 ((v.Set:Nat):Int)]::L) (L':=obj g112 47 [.int .u64 ((((((hasT e89 v.ID).getD view0).ID).N):Nat):Int),.int .i64 ((((hasT e89 v.ID).getD view0).ID).P),.int .u16 (((((hasT e89 v.ID).getD view0).Set):Nat):Int)]::obj g17 47 [.int .u64 ((v.ID.N:Nat):Int),.int .i64 v.ID.P,.int .u16 ((v.Set:Nat):Int)]::L) (Z:=[7]) (F:=[]) (Lw:=obj g112 47 [.int .u64 ((((((hasT e89 v.ID).getD view0).ID).N):Nat):Int),.int .i64 ((((hasT e89 v.ID).getD view0).ID).P),.int .u16 (((((hasT e89 v.ID).getD view0).Set):Nat):Int)]::obj g17 47 [.int .u64 ((v.ID.N:Nat):Int),.int .i64 v.ID.P,.int .u16 ((v.Set:Nat):Int)]::L) (pl:=(.q 0 (.q 1 (.q 2 (.q 3 (.q 4 (.q 5 (.q 6 (.e 7 (.q 8 .done)))))))))) mixed hs118 (fun u hu => hu) (fun u hu => hu) (by kernel_rfl) ?_))
 intro w119 hs120
 refine u_st (k:=0) (v:=.slice A_tr n_tr c_tr) rfl rfl (fun w hs => (x_move (.tmp rfl hρ79))) ?_
 refine u_st (k:=1) (v:=.int .i64 ((j:Nat):Int)) rfl rfl (fun w hs => (x_move (.tmp rfl hρ84))) ?_
 refine u_st (k:=2) (v:=.pointer (some ⟨b90,(o91 + j * 1),none⟩)) rfl rfl (fun w hs => (ixo36 (.tmp rfl rfl) hA94 (i:=((j:Nat):Int)) (.tmp rfl rfl) (by omega) (by omega) (by omega))) ?_
 refine u_st (k:=3) (v:=.slice A97 n98 c99) rfl rfl (fun w hs => (ld41 (.tmp rfl rfl) ((hat96x (hs.weaken hle105)).cell 0 rfl))) ?_
 refine u_st (k:=4) (v:=.int .i64 ((j:Nat):Int)) rfl rfl (fun w hs => (x_move (.tmp rfl hρ84))) ?_
 refine u_st (k:=5) (v:=.pointer (some ⟨g17,0 + 0,none⟩)) rfl rfl (fun w hs => (fa47_0 (.tmp rfl hρ81))) ?_
 refine u_st (k:=6) (v:=.agg #[.int .u64 ((v.ID.N:Nat):Int),.int .i64 v.ID.P]) rfl rfl (fun w hs => (ld44 (cs:=[.int .u64 ((v.ID.N:Nat):Int),.int .i64 v.ID.P]) (.tmp rfl rfl) (hs.at_ 1 rfl (0 + 0) rfl) rfl)) ?_
 refine u_eff (k:=7) rfl ?_
 have hr121:kViewID.rep H104 v.ID [.int .u64 ((v.ID.N:Nat):Int),.int .i64 v.ID.P]:=⟨rfl,b1,⟨b2,b3⟩⟩
 refine st_c cb43 .func (evs4 (.tmp rfl rfl) (.tmp rfl rfl) .const (.tmp rfl rfl)) (items14_spec hs120 e89 (hl100.mono hle105) ((j:Nat):Int) ⟨by omega,by omega⟩ 3 (by decide) v.ID hr121 ) ?_
 rintro e w122 ⟨H124,A126,n127,c128,hle125,rfl,sp129,hs123⟩
 have:=sp129.len; have:=sp129.le; have:n127 * 32 ≤ 140737488351232:=sp129.bnd
 refine ⟨_,rfl,?_⟩
 refine u_new (S':=fun u => St H124 u (obj g112 47 [.int .u64 ((((((hasT e89 v.ID).getD view0).ID).N):Nat):Int),.int .i64 ((((hasT e89 v.ID).getD view0).ID).P),.int .u16 (((((hasT e89 v.ID).getD view0).Set):Nat):Int)]::obj g17 47 [.int .u64 ((v.ID.N:Nat):Int),.int .i64 v.ID.P,.int .u16 ((v.Set:Nat):Int)]::L)) rfl (fun u hu => hu.weaken hle125) hs123 ?_
 refine u_st (k:=8) (v:=.slice A126 n127 c128) rfl rfl (fun w hs => (x_assign (.tmp rfl rfl))) ?_
 refine u_nil ?_
 refine n_then (c_seq (c_region (st (v:=.slice A28 n29 c30) (x_move (.tmp rfl hρ82)) ?_)))
 refine st (v:=.int .i64 ((j:Nat):Int)) (x_move (.tmp rfl hρ84)) ?_
 refine st_c cb45 .func (evs2 (.tmp rfl rfl) (.tmp rfl rfl)) (from14_spec hs123 (itemsT e5 ((i:Nat):Int) 3 v.ID) ((((sp31.mono hle38).mono hg78).mono hle105).mono hle125) ((j:Nat):Int) ⟨by omega,by omega⟩ ) ?_
 rintro e w130 ⟨H132,A134,n135,c136,hle133,rfl,sp137,hs131⟩
 have:=sp137.len; have:=sp137.le; have:n135 * 32 ≤ 140737488351232:=sp137.bnd
 refine ⟨_,rfl,?_⟩
 refine st (v:=.slice A134 n135 c136) (x_assign (.tmp rfl rfl)) ?_
 refine c_nil (n_then (c_seq (c_seq (c_region (st (v:=.bool ((hasT e89 v.ID).isSome)) (x_move (.tmp rfl rfl)) ?_)))))
 refine st (v:=.bool (!((hasT e89 v.ID).isSome))) (x_not (.tmp rfl rfl)) ?_
 refine c_nil (n_then ?_)
 rcases Bool.eq_false_or_eq_true ((hasT e89 v.ID).isSome) with hc138 | hc138
 refine c_cond_f (t:=false) (.tmp rfl (cVb (by rw [hc138]; rfl))) rfl ?_
 refine c_skip (n_then (c_seq (c_seq (t_region (L:=obj g112 47 [.int .u64 ((((((hasT e89 v.ID).getD view0).ID).N):Nat):Int),.int .i64 ((((hasT e89 v.ID).getD view0).ID).P),.int .u16 (((((hasT e89 v.ID).getD view0).Set):Nat):Int)]::obj g17 47 [.int .u64 ((v.ID.N:Nat):Int),.int .i64 v.ID.P,.int .u16 ((v.Set:Nat):Int)]::L) (L':=obj g112 47 [.int .u64 ((((((hasT e89 v.ID).getD view0).ID).N):Nat):Int),.int .i64 ((((hasT e89 v.ID).getD view0).ID).P),.int .u16 (((((hasT e89 v.ID).getD view0).Set):Nat):Int)]::obj g17 47 [.int .u64 ((v.ID.N:Nat):Int),.int .i64 v.ID.P,.int .u16 ((v.Set:Nat):Int)]::L) (Z:=[6,11]) (F:=[]) (pl:=(.q 0 (.q 1 (.q 2 (.q 3 (.q 4 (.q 5 (.e 6 (.q 7 (.q 8 (.q 9 (.q 10 (.e 11 (.q 12 (.q 13 (.q 14 (.q 15 (.q 16 (.q 17 (.q 18 (.q 19 (.q 20 (.q 21 (.q 22 (.q 23 (.e 24 (.e 25 (.q 26 (.q 27 .done))))))))))))))))))))))))))))) mixed hs131 (fun u hu => hu) (by kernel_rfl) ?_))))
 intro w139 hs140
 refine t_st (k:=0) (v:=.agg #[.int .u64 ((((((hasT e89 v.ID).getD view0).ID).N):Nat):Int),.int .i64 ((((hasT e89 v.ID).getD view0).ID).P),.int .u16 (((((hasT e89 v.ID).getD view0).Set):Nat):Int)]) rfl rfl (fun w hs => (ld47 (cs:=[.int .u64 ((((((hasT e89 v.ID).getD view0).ID).N):Nat):Int),.int .i64 ((((hasT e89 v.ID).getD view0).ID).P),.int .u16 (((((hasT e89 v.ID).getD view0).Set):Nat):Int)]) (.tmp rfl rfl) (hs.at_ 0 rfl (0) rfl) rfl)) ?_
 refine t_st (k:=1) (v:=.agg #[.int .u64 ((v.ID.N:Nat):Int),.int .i64 v.ID.P,.int .u16 ((v.Set:Nat):Int)]) rfl rfl (fun w hs => (ld47 (cs:=[.int .u64 ((v.ID.N:Nat):Int),.int .i64 v.ID.P,.int .u16 ((v.Set:Nat):Int)]) (.tmp rfl hρ81) (hs.at_ 1 rfl (0) rfl) rfl)) ?_
 refine t_st (k:=2) (v:=.bool (!(((((((((hasT e89 v.ID).getD view0).ID).N):Nat):Int) == ((v.ID.N:Nat):Int)) && ((((((hasT e89 v.ID).getD view0).ID).P) == v.ID.P) && true)) && (((((((hasT e89 v.ID).getD view0).Set):Nat):Int) == ((v.Set:Nat):Int)) && true)))) rfl rfl (fun w hs => (x_neqA eqg47 (.tmp rfl rfl) (.tmp rfl rfl) (fun d => eqs47 (d + 97) _ ((((((hasT e89 v.ID).getD view0).ID).N):Nat):Int) ((v.ID.N:Nat):Int) ((((hasT e89 v.ID).getD view0).ID).P) v.ID.P (((((hasT e89 v.ID).getD view0).Set):Nat):Int) ((v.Set:Nat):Int)))) ?_
 refine t_st (k:=3) (v:=.bool (!(decide (((hasT e89 v.ID).getD view0) = v)))) rfl rfl (fun w hs => (x_move (.tmp rfl (congrArg (fun z => Value.bool (!z)) (GView.beq_dec ((hasT e89 v.ID).getD view0) v))))) ?_
 rcases Bool.eq_false_or_eq_true (decide (((hasT e89 v.ID).getD view0) = v)) with hc141 | hc141
 have hp141:((hasT e89 v.ID).getD view0) = v:=of_decide_eq_true hc141
 refine t_yes (k:=4) (v:=.slice A28 n29 c30) rfl rfl (yl (dj:=101) (b:=false) rfl rfl (cVb (by rw [hc141]; rfl))) (fun w hs => (x_move (.tmp rfl hρ82))) ?_
 refine t_yes (k:=5) (v:=.slice A126 n127 c128) rfl rfl (yl (dj:=101) (b:=false) rfl rfl (cVb (by rw [hc141]; rfl))) (fun w hs => (x_move (.tmp rfl rfl))) ?_
 refine t_eff (k:=6) rfl ?_
 refine g_yes (yl (dj:=101) (b:=false) rfl rfl (cVb (by rw [hc141]; rfl))) ?_
 refine st_c cb42 .func (evs2 (.tmp rfl rfl) (.tmp rfl rfl)) (begins14_spec hs140 (itemsT e5 ((i:Nat):Int) 3 v.ID) (((((sp31.mono hle38).mono hg78).mono hle105).mono hle125).mono hle133) (itemsT e89 ((j:Nat):Int) 3 v.ID) (sp129.mono hle133) ) ?_
 rintro e w142 ⟨rfl,hs143⟩
 refine ⟨_,rfl,?_⟩
 refine t_new (S':=fun u => St H132 u (obj g112 47 [.int .u64 ((((((hasT e89 v.ID).getD view0).ID).N):Nat):Int),.int .i64 ((((hasT e89 v.ID).getD view0).ID).P),.int .u16 (((((hasT e89 v.ID).getD view0).Set):Nat):Int)]::obj g17 47 [.int .u64 ((v.ID.N:Nat):Int),.int .i64 v.ID.P,.int .u16 ((v.Set:Nat):Int)]::L)) rfl hs143 ?_
 refine t_yes (k:=7) (v:=.bool (!(beginsT (itemsT e5 ((i:Nat):Int) 3 v.ID) (itemsT e89 ((j:Nat):Int) 3 v.ID)))) rfl rfl (yl (dj:=101) (b:=false) rfl rfl (cVb (by rw [hc141]; rfl))) (fun w hs => (x_not (.tmp rfl rfl))) ?_
 refine t_yes (k:=8) (v:=.bool (!(beginsT (itemsT e5 ((i:Nat):Int) 3 v.ID) (itemsT e89 ((j:Nat):Int) 3 v.ID)))) rfl rfl (yl (dj:=101) (b:=false) rfl rfl (cVb (by rw [hc141]; rfl))) (fun w hs => (x_move (.tmp rfl rfl))) ?_
 rcases Bool.eq_false_or_eq_true (beginsT (itemsT e5 ((i:Nat):Int) 3 v.ID) (itemsT e89 ((j:Nat):Int) 3 v.ID)) with hc144 | hc144
 refine t_no (k:=9) rfl (yl (dj:=106) (b:=false) rfl rfl (cVb (by rw [hc144]; rfl))) rfl ?_
 refine t_no (k:=10) rfl (yl (dj:=106) (b:=false) rfl rfl (cVb (by rw [hc144]; rfl))) rfl ?_
 refine t_eff (k:=11) rfl ?_
 refine g_no (yl (dj:=106) (b:=false) rfl rfl (cVb (by rw [hc144]; rfl))) rfl ?_
 refine t_new (S':=fun u => St H132 u (obj g112 47 [.int .u64 ((((((hasT e89 v.ID).getD view0).ID).N):Nat):Int),.int .i64 ((((hasT e89 v.ID).getD view0).ID).P),.int .u16 (((((hasT e89 v.ID).getD view0).Set):Nat):Int)]::obj g17 47 [.int .u64 ((v.ID.N:Nat):Int),.int .i64 v.ID.P,.int .u16 ((v.Set:Nat):Int)]::L)) rfl hs143 ?_
 refine t_no (k:=12) rfl (yl (dj:=106) (b:=false) rfl rfl (cVb (by rw [hc144]; rfl))) rfl ?_
 refine t_yes (k:=13) (v:=.bool false) rfl rfl (yl (dj:=101) (b:=false) rfl rfl (cVb (by rw [hc141]; rfl))) (fun w hs => (x_pick_f (.tmp rfl (cVb (by rw [hc144]; rfl))) .const)) ?_
 refine t_st (k:=14) (v:=.bool false) rfl rfl (fun w hs => (x_pick_f (.tmp rfl (cVb (by rw [hc141]; rfl))) (.tmp rfl rfl))) ?_
 refine t_st (k:=15) (v:=.bool false) rfl rfl (fun w hs => (x_move (.tmp rfl rfl))) ?_
 refine t_yes (k:=16) (v:=.slice A134 n135 c136) rfl rfl (yl (dj:=113) (b:=false) rfl rfl rfl) (fun w hs => (x_move (.tmp rfl rfl))) ?_
 refine t_yes (k:=17) (v:=.slice A_tr n_tr c_tr) rfl rfl (yl (dj:=113) (b:=false) rfl rfl rfl) (fun w hs => (x_move (.tmp rfl hρ79))) ?_
 refine t_yes (k:=18) (v:=.int .i64 ((j:Nat):Int)) rfl rfl (yl (dj:=113) (b:=false) rfl rfl rfl) (fun w hs => (x_move (.tmp rfl hρ84))) ?_
 refine t_yes (k:=19) (v:=.pointer (some ⟨b90,(o91 + j * 1),none⟩)) rfl rfl (yl (dj:=113) (b:=false) rfl rfl rfl) (fun w hs => (ixo36 (.tmp rfl rfl) hA94 (i:=((j:Nat):Int)) (.tmp rfl rfl) (by omega) (by omega) (by omega))) ?_
 refine t_yes (k:=20) (v:=.slice A97 n98 c99) rfl rfl (yl (dj:=113) (b:=false) rfl rfl rfl) (fun w hs => (ld41 (.tmp rfl rfl) ((hat96x (((hs.weaken hle133).weaken hle125).weaken hle105)).cell 0 rfl))) ?_
 refine t_yes (k:=21) (v:=.int .i64 ((j:Nat):Int)) rfl rfl (yl (dj:=113) (b:=false) rfl rfl rfl) (fun w hs => (x_move (.tmp rfl hρ84))) ?_
 refine t_yes (k:=22) (v:=.pointer (some ⟨g17,0 + 0,none⟩)) rfl rfl (yl (dj:=113) (b:=false) rfl rfl rfl) (fun w hs => (fa47_0 (.tmp rfl hρ81))) ?_
 refine t_yes (k:=23) (v:=.agg #[.int .u64 ((v.ID.N:Nat):Int),.int .i64 v.ID.P]) rfl rfl (yl (dj:=113) (b:=false) rfl rfl rfl) (fun w hs => (ld44 (cs:=[.int .u64 ((v.ID.N:Nat):Int),.int .i64 v.ID.P]) (.tmp rfl rfl) (hs.at_ 1 rfl (0 + 0) rfl) rfl)) ?_
 refine t_eff (k:=24) rfl ?_
 refine g_yes (yl (dj:=113) (b:=false) rfl rfl rfl) ?_
 have hr145:kViewID.rep H132 v.ID [.int .u64 ((v.ID.N:Nat):Int),.int .i64 v.ID.P]:=⟨rfl,b1,⟨b2,b3⟩⟩
 refine st_c cb43 .func (evs4 (.tmp rfl rfl) (.tmp rfl rfl) .const (.tmp rfl rfl)) (items14_spec hs143 e89 (((hl100.mono hle105).mono hle125).mono hle133) ((j:Nat):Int) ⟨by omega,by omega⟩ 2 (by decide) v.ID hr145 ) ?_
 rintro e w146 ⟨H148,A150,n151,c152,hle149,rfl,sp153,hs147⟩
 have:=sp153.len; have:=sp153.le; have:n151 * 32 ≤ 140737488351232:=sp153.bnd
 refine ⟨_,rfl,?_⟩
 refine t_on (S':=fun u => St H148 u (obj g112 47 [.int .u64 ((((((hasT e89 v.ID).getD view0).ID).N):Nat):Int),.int .i64 ((((hasT e89 v.ID).getD view0).ID).P),.int .u16 (((((hasT e89 v.ID).getD view0).Set):Nat):Int)]::obj g17 47 [.int .u64 ((v.ID.N:Nat):Int),.int .i64 v.ID.P,.int .u16 ((v.Set:Nat):Int)]::L)) (fun u hu => hu.weaken hle149) hs147 ?_
 refine t_eff (k:=25) rfl ?_
 refine g_yes (yl (dj:=113) (b:=false) rfl rfl rfl) ?_
 refine st_c cb42 .func (evs2 (.tmp rfl rfl) (.tmp rfl rfl)) (begins14_spec hs147 (fromT (itemsT e5 ((i:Nat):Int) 3 v.ID) ((j:Nat):Int)) (sp137.mono hle149) (itemsT e89 ((j:Nat):Int) 2 v.ID) sp153 ) ?_
 rintro e w154 ⟨rfl,hs155⟩
 refine ⟨_,rfl,?_⟩
 refine t_on (S':=fun u => St H148 u (obj g112 47 [.int .u64 ((((((hasT e89 v.ID).getD view0).ID).N):Nat):Int),.int .i64 ((((hasT e89 v.ID).getD view0).ID).P),.int .u16 (((((hasT e89 v.ID).getD view0).Set):Nat):Int)]::obj g17 47 [.int .u64 ((v.ID.N:Nat):Int),.int .i64 v.ID.P,.int .u16 ((v.Set:Nat):Int)]::L)) (fun u hu => hu) hs155 ?_
 refine t_yes (k:=26) (v:=.bool (!(beginsT (fromT (itemsT e5 ((i:Nat):Int) 3 v.ID) ((j:Nat):Int)) (itemsT e89 ((j:Nat):Int) 2 v.ID)))) rfl rfl (yl (dj:=113) (b:=false) rfl rfl rfl) (fun w hs => (x_not (.tmp rfl rfl))) ?_
 refine t_st (k:=27) (v:=.bool (!(beginsT (fromT (itemsT e5 ((i:Nat):Int) 3 v.ID) ((j:Nat):Int)) (itemsT e89 ((j:Nat):Int) 2 v.ID)))) rfl rfl (fun w hs => (x_pick_f (.tmp rfl rfl) (.tmp rfl rfl))) ?_
 refine t_nil ?_
 refine n_then ?_
 rcases Bool.eq_false_or_eq_true (beginsT (fromT (itemsT e5 ((i:Nat):Int) 3 v.ID) ((j:Nat):Int)) (itemsT e89 ((j:Nat):Int) 2 v.ID)) with hc156 | hc156
 refine c_cond_f (t:=false) (.tmp rfl (cVb (by rw [hc156]; rfl))) rfl ?_
 refine c_skip (n_then (c_seq (c_seq (c_region (st (v:=.int .i64 ((n40:Nat):Int)) (x_move (.tmp rfl hρ83)) ?_)))))
 refine st (v:=.slice A126 n127 c128) (x_move (.tmp rfl rfl)) ?_
 refine st (v:=.int .i64 ((n127:Nat):Int)) (x_len (n:=n127) Tryd.underlying25 (.tmp rfl rfl)) ?_
 refine st (v:=.bool (decide ((((n127:Nat):Int):Int) < ((n40:Nat):Int)))) (x_gtr (k:=.i64) (a:=((n40:Nat):Int)) (b:=((n127:Nat):Int)) (.tmp rfl rfl) (.tmp rfl rfl)) ?_
 refine st (v:=.bool (decide ((((n127:Nat):Int):Int) < ((n40:Nat):Int)))) (x_move (.tmp rfl rfl)) ?_
 refine jw 5 (fun ρ w => ρ 135 = .bool ((decide ((((n127:Nat):Int):Int) < ((n40:Nat):Int))) && (has v.Set ((j:Nat):Int)))∧ρ 0 = .slice A_tr n_tr c_tr∧ρ 1 = .int .i64 ((i:Nat):Int)∧ρ 5 = .pointer (some ⟨g17,0,none⟩)∧ρ 7 = .slice A28 n29 c30∧ρ 8 = .int .i64 ((n40:Nat):Int)∧ρ 10 = .int .i64 ((j:Nat):Int)∧ρ 13 = .slice A126 n127 c128∧St H148 w (obj g112 47 [.int .u64 ((((((hasT e89 v.ID).getD view0).ID).N):Nat):Int),.int .i64 ((((hasT e89 v.ID).getD view0).ID).P),.int .u16 (((((hasT e89 v.ID).getD view0).Set):Nat):Int)]::obj g17 47 [.int .u64 ((v.ID.N:Nat):Int),.int .i64 v.ID.P,.int .u16 ((v.Set:Nat):Int)]::L)) ?_ ?_
 rcases Bool.eq_false_or_eq_true (decide ((((n127:Nat):Int):Int) < ((n40:Nat):Int))) with hc157 | hc157
 have hp157:(((n127:Nat):Int):Int) < ((n40:Nat):Int):=of_decide_eq_true hc157
 refine g_yes (yk 130 true rfl rfl hc157) ?_
 refine st (v:=.pointer (some ⟨g17,0 + 2,none⟩)) (fa47_1 (.tmp rfl hρ81)) ?_
 refine g_yes (yk 130 true rfl rfl hc157) ?_
 refine st (v:=.int .u16 ((v.Set:Nat):Int)) (ld45 (.tmp rfl rfl) (hs155.cell 1 rfl (0 + 2) rfl)) ?_
 refine g_yes (yk 130 true rfl rfl hc157) ?_
 refine st (v:=.int .i64 ((j:Nat):Int)) (x_move (.tmp rfl hρ84)) ?_
 refine g_yes (yk 130 true rfl rfl hc157) ?_
 refine st_c cb40 .func (evs2 (.tmp rfl rfl) (.tmp rfl rfl)) (rhas_spec hs155 v.Set ((j:Nat):Int) b4 (by omega)) ?_
 rintro e w158 ⟨rfl,hs159⟩
 refine ⟨_,rfl,?_⟩
 refine st (v:=.bool (has v.Set ((j:Nat):Int))) (x_pick_t (.tmp rfl (cVb hc157)) (.tmp rfl rfl)) ?_
 exact jw_end ⟨(cVb (jand_t hc157)),hρ79,hρ80,hρ81,hρ82,hρ83,hρ84,rfl,hs159⟩
 have hp157:¬ ((((n127:Nat):Int):Int) < ((n40:Nat):Int)):=of_decide_eq_false hc157
 refine g_no (yk 130 false rfl rfl hc157) rfl ?_
 refine g_no (yk 130 false rfl rfl hc157) rfl ?_
 refine g_no (yk 130 false rfl rfl hc157) rfl ?_
 refine g_no (yk 130 false rfl rfl hc157) rfl ?_
 refine st (v:=.bool false) (x_pick_f (.tmp rfl (cVb hc157)) .const) ?_
 exact jw_end ⟨(cVb (jand_f hc157)),hρ79,hρ80,hρ81,hρ82,hρ83,hρ84,rfl,hs155⟩
 rintro ρ w ⟨hρ160,hρ161,hρ162,hρ163,hρ164,hρ165,hρ166,hρ167,hs168⟩
 refine c_nil (n_then ?_)
 rcases Bool.eq_false_or_eq_true ((decide ((((n127:Nat):Int):Int) < ((n40:Nat):Int))) && (has v.Set ((j:Nat):Int))) with hc169 | hc169
 have hp169:((((n127:Nat):Int):Int) < ((n40:Nat):Int))∧((has v.Set ((j:Nat):Int)) = true):=((J_and decide_eq_true_iff Iff.rfl)).1 hc169
 refine c_cond_t (t:=true) (.tmp rfl (hρ160.trans (cVb hc169))) rfl ?_
 refine c_seq (c_region (st (v:=.bool false) (x_assign .const) ?_))
 refine c_nil (n_then (c_ret (r_then (r_block (r_then (r_then (r_block (r_then (leave_ret (res_one (v:=.bool false) rfl (.mk rfl rfl)) ?_)))))))))
 have hans170:inviewT tr i v = false:=inview_no2 (j:=j) (by omega) ((seeT_is hx9 hx93).trans (see_bad4 hc138 (by have h9:=hc169; simp only [Bool.and_eq_true,decide_eq_true_eq] at h9; have:=h9.1; omega) (by have h9:=hc169; simp only [Bool.and_eq_true,decide_eq_true_eq] at h9; exact h9.2)))
 rw [hans170]
 exact ⟨H148,((((((hle27.trans hle38).trans hg78).trans hle105).trans hle125).trans hle133).trans hle149),rfl,hs168.drop.drop⟩
 have hp169:¬ (((((n127:Nat):Int):Int) < ((n40:Nat):Int))∧((has v.Set ((j:Nat):Int)) = true)):=J_no (J_and decide_eq_true_iff Iff.rfl) hc169
 refine c_cond_f (t:=false) (.tmp rfl (hρ160.trans (cVb hc169))) rfl ?_
 refine c_skip (n_then (c_seq (u_region (L:=obj g112 47 [.int .u64 ((((((hasT e89 v.ID).getD view0).ID).N):Nat):Int),.int .i64 ((((hasT e89 v.ID).getD view0).ID).P),.int .u16 (((((hasT e89 v.ID).getD view0).Set):Nat):Int)]::obj g17 47 [.int .u64 ((v.ID.N:Nat):Int),.int .i64 v.ID.P,.int .u16 ((v.Set:Nat):Int)]::L) (L':=obj g112 47 [.int .u64 ((((((hasT e89 v.ID).getD view0).ID).N):Nat):Int),.int .i64 ((((hasT e89 v.ID).getD view0).ID).P),.int .u16 (((((hasT e89 v.ID).getD view0).Set):Nat):Int)]::obj g17 47 [.int .u64 ((v.ID.N:Nat):Int),.int .i64 v.ID.P,.int .u16 ((v.Set:Nat):Int)]::L) (Z:=[6,8]) (F:=[]) (Lw:=obj g112 47 [.int .u64 ((((((hasT e89 v.ID).getD view0).ID).N):Nat):Int),.int .i64 ((((hasT e89 v.ID).getD view0).ID).P),.int .u16 (((((hasT e89 v.ID).getD view0).Set):Nat):Int)]::obj g17 47 [.int .u64 ((v.ID.N:Nat):Int),.int .i64 v.ID.P,.int .u16 ((v.Set:Nat):Int)]::L) (pl:=(.q 0 (.q 1 (.q 2 (.q 3 (.q 4 (.q 5 (.two 6 (.e 7 (.e 8 .done)) 7 (.e 6 (.e 8 .done)))))))))) mixed hs168 (fun u hu => hu) (fun u hu => hu) (by kernel_rfl) ?_)))
 intro w171 hs172
 refine u_st (k:=0) (v:=.slice A_tr n_tr c_tr) rfl rfl (fun w hs => (x_move (.tmp rfl hρ161))) ?_
 refine u_st (k:=1) (v:=.int .i64 ((i:Nat):Int)) rfl rfl (fun w hs => (x_move (.tmp rfl hρ162))) ?_
 refine u_st (k:=2) (v:=.pointer (some ⟨b6,(o7 + i * 1),none⟩)) rfl rfl (fun w hs => (ixo36 (.tmp rfl rfl) hA10 (i:=((i:Nat):Int)) (.tmp rfl rfl) (by omega) (by omega) (by omega))) ?_
 refine u_st (k:=3) (v:=.slice A13 n14 c15) rfl rfl (fun w hs => (ld41 (.tmp rfl rfl) ((hat12x (((((((hs.weaken hle149).weaken hle133).weaken hle125).weaken hle105).weaken hg78).weaken hle38).weaken hle27)).cell 0 rfl))) ?_
 refine u_st (k:=4) (v:=.pointer (some ⟨g17,0 + 0,none⟩)) rfl rfl (fun w hs => (fa47_0 (.tmp rfl hρ163))) ?_
 refine u_st (k:=5) (v:=.agg #[.int .u64 ((v.ID.N:Nat):Int),.int .i64 v.ID.P]) rfl rfl (fun w hs => (ld44 (cs:=[.int .u64 ((v.ID.N:Nat):Int),.int .i64 v.ID.P]) (.tmp rfl rfl) (hs.at_ 1 rfl (0 + 0) rfl) rfl)) ?_
 refine u_two ?_ ?_
 refine u_eff (k:=6) rfl ?_
 have hr173:kViewID.rep H148 v.ID [.int .u64 ((v.ID.N:Nat):Int),.int .i64 v.ID.P]:=⟨rfl,b1,⟨b2,b3⟩⟩
 refine st_c cb46 .func (evs2 (.tmp rfl rfl) (.tmp rfl rfl)) (next14_spec hs172 e5 (((((((hl16.mono hle27).mono hle38).mono hg78).mono hle105).mono hle125).mono hle133).mono hle149) v.ID hr173 ) ?_
 rintro e w174 ⟨H176,cs178,hle177,rfl,hr179,hs175⟩
 obtain ⟨rfl,b180,⟨b181,b182⟩⟩:=hr179
 refine ⟨_,rfl,?_⟩
 refine u_new (S':=fun u => St H176 u (obj g112 47 [.int .u64 ((((((hasT e89 v.ID).getD view0).ID).N):Nat):Int),.int .i64 ((((hasT e89 v.ID).getD view0).ID).P),.int .u16 (((((hasT e89 v.ID).getD view0).Set):Nat):Int)]::obj g17 47 [.int .u64 ((v.ID.N:Nat):Int),.int .i64 v.ID.P,.int .u16 ((v.Set:Nat):Int)]::L)) rfl (fun u hu => hu.weaken hle177) hs175 ?_
 refine u_eff (k:=7) rfl ?_
 refine st_m (al44 (cs:=[.int .u64 0,.int .i64 0]) hs175 rfl) ?_
 rintro _ w184 ⟨g183,rfl,hs186⟩
 refine u_on (S':=fun u => St H176 u (obj g183 44 [.int .u64 0,.int .i64 0]::obj g112 47 [.int .u64 ((((((hasT e89 v.ID).getD view0).ID).N):Nat):Int),.int .i64 ((((hasT e89 v.ID).getD view0).ID).P),.int .u16 (((((hasT e89 v.ID).getD view0).Set):Nat):Int)]::obj g17 47 [.int .u64 ((v.ID.N:Nat):Int),.int .i64 v.ID.P,.int .u16 ((v.Set:Nat):Int)]::L)) (fun u hu => hu.drop) (fun u hu => hu.drop.weaken hle177) hs186 ?_
 refine u_eff (k:=8) rfl ?_
 refine st_m0 (sto44 (cs':=[.int .u64 ((((nextT e5 v.ID).N):Nat):Int),.int .i64 ((nextT e5 v.ID).P)]) (i:=0) hs186 (v:=.agg #[.int .u64 ((((nextT e5 v.ID).N):Nat):Int),.int .i64 ((nextT e5 v.ID).P)]) (.tmp rfl rfl) (.tmp rfl rfl) rfl (Nat.le_of_ble_eq_true rfl) (oneA rfl) rfl) ?_
 rintro w187 hs189
 refine u_new (S':=fun u => St H176 u (obj g183 44 [.int .u64 ((((nextT e5 v.ID).N):Nat):Int),.int .i64 ((nextT e5 v.ID).P)]::obj g112 47 [.int .u64 ((((((hasT e89 v.ID).getD view0).ID).N):Nat):Int),.int .i64 ((((hasT e89 v.ID).getD view0).ID).P),.int .u16 (((((hasT e89 v.ID).getD view0).Set):Nat):Int)]::obj g17 47 [.int .u64 ((v.ID.N:Nat):Int),.int .i64 v.ID.P,.int .u16 ((v.Set:Nat):Int)]::L)) rfl (fun u hu => hu.drop.weaken hle177) hs189 ?_
 refine u_nil ?_
 refine n_then (c_seq (t_region (L:=obj g183 44 [.int .u64 ((((nextT e5 v.ID).N):Nat):Int),.int .i64 ((nextT e5 v.ID).P)]::obj g112 47 [.int .u64 ((((((hasT e89 v.ID).getD view0).ID).N):Nat):Int),.int .i64 ((((hasT e89 v.ID).getD view0).ID).P),.int .u16 (((((hasT e89 v.ID).getD view0).Set):Nat):Int)]::obj g17 47 [.int .u64 ((v.ID.N:Nat):Int),.int .i64 v.ID.P,.int .u16 ((v.Set:Nat):Int)]::L) (L':=obj g183 44 [.int .u64 ((((nextT e5 v.ID).N):Nat):Int),.int .i64 ((nextT e5 v.ID).P)]::obj g112 47 [.int .u64 ((((((hasT e89 v.ID).getD view0).ID).N):Nat):Int),.int .i64 ((((hasT e89 v.ID).getD view0).ID).P),.int .u16 (((((hasT e89 v.ID).getD view0).Set):Nat):Int)]::obj g17 47 [.int .u64 ((v.ID.N:Nat):Int),.int .i64 v.ID.P,.int .u16 ((v.Set:Nat):Int)]::L) (Z:=[]) (F:=[]) (pl:=(.q 0 (.q 1 (.q 2 (.q 3 (.q 4 (.q 5 (.q 6 (.q 7 (.q 8 (.q 9 (.q 10 (.e 11 (.q 12 (.q 13 (.q 14 (.q 15 (.q 16 (.q 17 (.q 18 (.q 19 (.q 20 .done)))))))))))))))))))))) mixed hs189 (fun u hu => hu) (by kernel_rfl) ?_))
 intro w190 hs191
 refine t_st (k:=0) (v:=.pointer (some ⟨g183,0 + 0,none⟩)) rfl rfl (fun w hs => (fa44_0 (.tmp rfl rfl))) ?_
 refine t_st (k:=1) (v:=.int .u64 ((((nextT e5 v.ID).N):Nat):Int)) rfl rfl (fun w hs => (ld42 (.tmp rfl rfl) (hs.cell 0 rfl (0 + 0) rfl))) ?_
 refine t_st (k:=2) (v:=.bool (decide ((0:Int) < ((((nextT e5 v.ID).N):Nat):Int)))) rfl rfl (fun w hs => (x_gtr (k:=.u64) (a:=((((nextT e5 v.ID).N):Nat):Int)) (b:=0) (.tmp rfl rfl) .const)) ?_
 refine t_st (k:=3) (v:=.bool (decide ((0:Int) < ((((nextT e5 v.ID).N):Nat):Int)))) rfl rfl (fun w hs => (x_move (.tmp rfl rfl))) ?_
 rcases Bool.eq_false_or_eq_true (decide ((0:Int) < ((((nextT e5 v.ID).N):Nat):Int))) with hc192 | hc192
 have hp192:(0:Int) < ((((nextT e5 v.ID).N):Nat):Int):=of_decide_eq_true hc192
 refine t_yes (k:=4) (v:=.agg #[.int .u64 ((((nextT e5 v.ID).N):Nat):Int),.int .i64 ((nextT e5 v.ID).P)]) rfl rfl (yk 146 true rfl rfl hc192) (fun w hs => (ld44 (cs:=[.int .u64 ((((nextT e5 v.ID).N):Nat):Int),.int .i64 ((nextT e5 v.ID).P)]) (.tmp rfl rfl) (hs.at_ 0 rfl (0) rfl) rfl)) ?_
 refine t_yes (k:=5) (v:=.slice A_tr n_tr c_tr) rfl rfl (yk 146 true rfl rfl hc192) (fun w hs => (x_move (.tmp rfl hρ161))) ?_
 refine t_yes (k:=6) (v:=.int .i64 ((j:Nat):Int)) rfl rfl (yk 146 true rfl rfl hc192) (fun w hs => (x_move (.tmp rfl hρ166))) ?_
 refine t_yes (k:=7) (v:=.pointer (some ⟨b90,(o91 + j * 1),none⟩)) rfl rfl (yk 146 true rfl rfl hc192) (fun w hs => (ixo36 (.tmp rfl rfl) hA94 (i:=((j:Nat):Int)) (.tmp rfl rfl) (by omega) (by omega) (by omega))) ?_
 refine t_yes (k:=8) (v:=.slice A97 n98 c99) rfl rfl (yk 146 true rfl rfl hc192) (fun w hs => (ld41 (.tmp rfl rfl) ((hat96x (((((hs.weaken hle177).weaken hle149).weaken hle133).weaken hle125).weaken hle105)).cell 0 rfl))) ?_
 refine t_yes (k:=9) (v:=.pointer (some ⟨g17,0 + 0,none⟩)) rfl rfl (yk 146 true rfl rfl hc192) (fun w hs => (fa47_0 (.tmp rfl hρ163))) ?_
 refine t_yes (k:=10) (v:=.agg #[.int .u64 ((v.ID.N:Nat):Int),.int .i64 v.ID.P]) rfl rfl (yk 146 true rfl rfl hc192) (fun w hs => (ld44 (cs:=[.int .u64 ((v.ID.N:Nat):Int),.int .i64 v.ID.P]) (.tmp rfl rfl) (hs.at_ 2 rfl (0 + 0) rfl) rfl)) ?_
 refine t_eff (k:=11) rfl ?_
 refine g_yes (yk 146 true rfl rfl hc192) ?_
 have hr193:kViewID.rep H176 v.ID [.int .u64 ((v.ID.N:Nat):Int),.int .i64 v.ID.P]:=⟨rfl,b1,⟨b2,b3⟩⟩
 refine st_c cb46 .func (evs2 (.tmp rfl rfl) (.tmp rfl rfl)) (next14_spec hs191 e89 (((((hl100.mono hle105).mono hle125).mono hle133).mono hle149).mono hle177) v.ID hr193 ) ?_
 rintro e w194 ⟨H196,cs198,hle197,rfl,hr199,hs195⟩
 obtain ⟨rfl,b200,⟨b201,b202⟩⟩:=hr199
 refine ⟨_,rfl,?_⟩
 refine t_on (S':=fun u => St H196 u (obj g183 44 [.int .u64 ((((nextT e5 v.ID).N):Nat):Int),.int .i64 ((nextT e5 v.ID).P)]::obj g112 47 [.int .u64 ((((((hasT e89 v.ID).getD view0).ID).N):Nat):Int),.int .i64 ((((hasT e89 v.ID).getD view0).ID).P),.int .u16 (((((hasT e89 v.ID).getD view0).Set):Nat):Int)]::obj g17 47 [.int .u64 ((v.ID.N:Nat):Int),.int .i64 v.ID.P,.int .u16 ((v.Set:Nat):Int)]::L)) (fun u hu => hu.weaken hle197) hs195 ?_
 refine t_yes (k:=12) (v:=.bool ((((((nextT e5 v.ID).N):Nat):Int) == ((((nextT e89 v.ID).N):Nat):Int)) && ((((nextT e5 v.ID).P) == ((nextT e89 v.ID).P)) && true))) rfl rfl (yk 146 true rfl rfl hc192) (fun w hs => (x_eqlA eqg44 (.tmp rfl rfl) (.tmp rfl rfl) (fun d => eqs44 (d + 98) _ ((((nextT e5 v.ID).N):Nat):Int) ((((nextT e89 v.ID).N):Nat):Int) ((nextT e5 v.ID).P) ((nextT e89 v.ID).P)))) ?_
 refine t_st (k:=13) (v:=.bool (decide ((nextT e5 v.ID) = (nextT e89 v.ID)))) rfl rfl (fun w hs => (x_pick_t (.tmp rfl (cVb hc192)) (.tmp rfl (cVb (GViewID.beq_dec (nextT e5 v.ID) (nextT e89 v.ID)))))) ?_
 refine t_st (k:=14) (v:=.bool (decide ((nextT e5 v.ID) = (nextT e89 v.ID)))) rfl rfl (fun w hs => (x_move (.tmp rfl rfl))) ?_
 rcases Bool.eq_false_or_eq_true (decide ((nextT e5 v.ID) = (nextT e89 v.ID))) with hc203 | hc203
 have hp203:(nextT e5 v.ID) = (nextT e89 v.ID):=of_decide_eq_true hc203
 refine t_yes (k:=15) (v:=.slice A28 n29 c30) rfl rfl (yk 157 true rfl rfl hc203) (fun w hs => (x_move (.tmp rfl hρ164))) ?_
 refine t_yes (k:=16) (v:=.int .i64 ((n29:Nat):Int)) rfl rfl (yk 157 true rfl rfl hc203) (fun w hs => (x_len (n:=n29) Tryd.underlying25 (.tmp rfl rfl))) ?_
 refine t_yes (k:=17) (v:=.slice A126 n127 c128) rfl rfl (yk 157 true rfl rfl hc203) (fun w hs => (x_move (.tmp rfl hρ167))) ?_
 refine t_yes (k:=18) (v:=.int .i64 ((n127:Nat):Int)) rfl rfl (yk 157 true rfl rfl hc203) (fun w hs => (x_len (n:=n127) Tryd.underlying25 (.tmp rfl rfl))) ?_
 refine t_yes (k:=19) (v:=.bool (decide ((((n29:Nat):Int):Int) ≠ ((n127:Nat):Int)))) rfl rfl (yk 157 true rfl rfl hc203) (fun w hs => (x_neq (k:=.i64) (a:=((n29:Nat):Int)) (b:=((n127:Nat):Int)) (.tmp rfl rfl) (.tmp rfl rfl))) ?_
 refine t_st (k:=20) (v:=.bool (decide ((((n29:Nat):Int):Int) ≠ ((n127:Nat):Int)))) rfl rfl (fun w hs => (x_pick_t (.tmp rfl (cVb hc203)) (.tmp rfl rfl))) ?_
 refine t_nil ?_
 refine n_then ?_
 rcases Bool.eq_false_or_eq_true (decide ((((n29:Nat):Int):Int) ≠ ((n127:Nat):Int))) with hc204 | hc204
 have hp204:(((n29:Nat):Int):Int) ≠ ((n127:Nat):Int):=of_decide_eq_true hc204
 refine c_cond_t (t:=true) (.tmp rfl (cVb hc204)) rfl ?_
 refine c_seq (c_region (st (v:=.bool false) (x_assign .const) ?_))
 refine c_nil (n_then (c_ret (r_block (r_then (r_then (r_block (r_then (leave_ret (res_one (v:=.bool false) rfl (.mk rfl rfl)) ?_))))))))
 have hans205:inviewT tr i v = false:=inview_no2 (j:=j) (by omega) ((seeT_is hx9 hx93).trans (see_bad5 hc138 (by omega) (of_decide_eq_true hc203) (by omega)))
 rw [hans205]
 exact ⟨H196,((((((((hle27.trans hle38).trans hg78).trans hle105).trans hle125).trans hle133).trans hle149).trans hle177).trans hle197),rfl,hs195.drop.drop.drop⟩
 have hp204:¬ ((((n29:Nat):Int):Int) ≠ ((n127:Nat):Int)):=of_decide_eq_false hc204
 refine c_cond_f (t:=false) (.tmp rfl (cVb hc204)) rfl ?_
 refine c_skip (n_block (n_then (c_region (st (v:=.int .i64 ((j:Nat):Int)) (x_move (.tmp rfl hρ166)) ?_))))
 refine st (v:=.int .i64 (((j + 1):Nat):Int)) (x_add (k:=.i64) (a:=((j:Nat):Int)) (b:=1) (.tmp rfl rfl) .const ((w64 (by omega) (by omega)).trans (by omega))) ?_
 refine st (v:=.int .i64 (((j + 1):Nat):Int)) (x_assign (.tmp rfl rfl)) ?_
 refine c_nil ?_
 refine n_then ⟨_,_,rfl,?_,H196,(j + 1),hρ161,hρ162,hρ163,hρ164,hρ165,rfl,((((((hg78.trans hle105).trans hle125).trans hle133).trans hle149).trans hle177).trans hle197),(by omega),(see_next (p:=fun j => seeT tr i v j = true) hse ((seeT_is hx9 hx93).trans (see_ok hc138 (of_decide_eq_true hc141) (.inl hc144) hc156 (by have h9:=hc169; simp only [Bool.and_eq_false_iff,decide_eq_false_iff_not] at h9; rintro ⟨h8,h7⟩; rcases h9 with h9 | h9; omega; rw [h7] at h9; cases h9) (by rintro ⟨h8,h7,h6⟩; omega)))),hs195.drop.drop,rfl⟩
 omega
 have hp203:¬ ((nextT e5 v.ID) = (nextT e89 v.ID)):=of_decide_eq_false hc203
 refine t_no (k:=15) rfl (yk 157 false rfl rfl hc203) rfl ?_
 refine t_no (k:=16) rfl (yk 157 false rfl rfl hc203) rfl ?_
 refine t_no (k:=17) rfl (yk 157 false rfl rfl hc203) rfl ?_
 refine t_no (k:=18) rfl (yk 157 false rfl rfl hc203) rfl ?_
 refine t_no (k:=19) rfl (yk 157 false rfl rfl hc203) rfl ?_
 refine t_st (k:=20) (v:=.bool false) rfl rfl (fun w hs => (x_pick_f (.tmp rfl (cVb hc203)) .const)) ?_
 refine t_nil ?_
 refine n_then (c_cond_f (t:=false) (.tmp rfl rfl) rfl ?_)
 refine c_skip (n_block (n_then (c_region (st (v:=.int .i64 ((j:Nat):Int)) (x_move (.tmp rfl hρ166)) ?_))))
 refine st (v:=.int .i64 (((j + 1):Nat):Int)) (x_add (k:=.i64) (a:=((j:Nat):Int)) (b:=1) (.tmp rfl rfl) .const ((w64 (by omega) (by omega)).trans (by omega))) ?_
 refine st (v:=.int .i64 (((j + 1):Nat):Int)) (x_assign (.tmp rfl rfl)) ?_
 refine c_nil ?_
 refine n_then ⟨_,_,rfl,?_,H196,(j + 1),hρ161,hρ162,hρ163,hρ164,hρ165,rfl,((((((hg78.trans hle105).trans hle125).trans hle133).trans hle149).trans hle177).trans hle197),(by omega),(see_next (p:=fun j => seeT tr i v j = true) hse ((seeT_is hx9 hx93).trans (see_ok hc138 (of_decide_eq_true hc141) (.inl hc144) hc156 (by have h9:=hc169; simp only [Bool.and_eq_false_iff,decide_eq_false_iff_not] at h9; rintro ⟨h8,h7⟩; rcases h9 with h9 | h9; omega; rw [h7] at h9; cases h9) (by rintro ⟨h8,h7,h6⟩; exact absurd h7 (of_decide_eq_false hc203))))),hs195.drop.drop,rfl⟩
 omega
 have hp192:¬ ((0:Int) < ((((nextT e5 v.ID).N):Nat):Int)):=of_decide_eq_false hc192
 refine t_no (k:=4) rfl (yk 146 false rfl rfl hc192) rfl ?_
 refine t_no (k:=5) rfl (yk 146 false rfl rfl hc192) rfl ?_
 refine t_no (k:=6) rfl (yk 146 false rfl rfl hc192) rfl ?_
 refine t_no (k:=7) rfl (yk 146 false rfl rfl hc192) rfl ?_
 refine t_no (k:=8) rfl (yk 146 false rfl rfl hc192) rfl ?_
 refine t_no (k:=9) rfl (yk 146 false rfl rfl hc192) rfl ?_
 refine t_no (k:=10) rfl (yk 146 false rfl rfl hc192) rfl ?_
 refine t_eff (k:=11) rfl ?_
 refine g_no (yk 146 false rfl rfl hc192) rfl ?_
 refine t_on (S':=fun u => St H176 u (obj g183 44 [.int .u64 ((((nextT e5 v.ID).N):Nat):Int),.int .i64 ((nextT e5 v.ID).P)]::obj g112 47 [.int .u64 ((((((hasT e89 v.ID).getD view0).ID).N):Nat):Int),.int .i64 ((((hasT e89 v.ID).getD view0).ID).P),.int .u16 (((((hasT e89 v.ID).getD view0).Set):Nat):Int)]::obj g17 47 [.int .u64 ((v.ID.N:Nat):Int),.int .i64 v.ID.P,.int .u16 ((v.Set:Nat):Int)]::L)) (fun u hu => hu) hs191 ?_
 refine t_no (k:=12) rfl (yk 146 false rfl rfl hc192) rfl ?_
 refine t_st (k:=13) (v:=.bool false) rfl rfl (fun w hs => (x_pick_f (.tmp rfl (cVb hc192)) .const)) ?_
 refine t_st (k:=14) (v:=.bool false) rfl rfl (fun w hs => (x_move (.tmp rfl rfl))) ?_
 refine t_no (k:=15) rfl (yl (dj:=157) (b:=false) rfl rfl rfl) rfl ?_
 refine t_no (k:=16) rfl (yl (dj:=157) (b:=false) rfl rfl rfl) rfl ?_
 refine t_no (k:=17) rfl (yl (dj:=157) (b:=false) rfl rfl rfl) rfl ?_
 refine t_no (k:=18) rfl (yl (dj:=157) (b:=false) rfl rfl rfl) rfl ?_
 refine t_no (k:=19) rfl (yl (dj:=157) (b:=false) rfl rfl rfl) rfl ?_
 refine t_st (k:=20) (v:=.bool false) rfl rfl (fun w hs => (x_pick_f (.tmp rfl rfl) .const)) ?_
 refine t_nil ?_
 refine n_then (c_cond_f (t:=false) (.tmp rfl rfl) rfl ?_)
 refine c_skip (n_block (n_then (c_region (st (v:=.int .i64 ((j:Nat):Int)) (x_move (.tmp rfl hρ166)) ?_))))
 refine st (v:=.int .i64 (((j + 1):Nat):Int)) (x_add (k:=.i64) (a:=((j:Nat):Int)) (b:=1) (.tmp rfl rfl) .const ((w64 (by omega) (by omega)).trans (by omega))) ?_
 refine st (v:=.int .i64 (((j + 1):Nat):Int)) (x_assign (.tmp rfl rfl)) ?_
 refine c_nil ?_
 refine n_then ⟨_,_,rfl,?_,H176,(j + 1),hρ161,hρ162,hρ163,hρ164,hρ165,rfl,(((((hg78.trans hle105).trans hle125).trans hle133).trans hle149).trans hle177),(by omega),(see_next (p:=fun j => seeT tr i v j = true) hse ((seeT_is hx9 hx93).trans (see_ok hc138 (of_decide_eq_true hc141) (.inl hc144) hc156 (by have h9:=hc169; simp only [Bool.and_eq_false_iff,decide_eq_false_iff_not] at h9; rintro ⟨h8,h7⟩; rcases h9 with h9 | h9; omega; rw [h7] at h9; cases h9) (by rintro ⟨h8,h7,h6⟩; omega)))),hs191.drop.drop,rfl⟩
 omega
 refine u_eff (k:=7) rfl ?_
 refine st_m (al44 (cs:=[.int .u64 0,.int .i64 0]) hs172 rfl) ?_
 rintro _ w207 ⟨g206,rfl,hs209⟩
 refine u_on (S':=fun u => St H148 u (obj g206 44 [.int .u64 0,.int .i64 0]::obj g112 47 [.int .u64 ((((((hasT e89 v.ID).getD view0).ID).N):Nat):Int),.int .i64 ((((hasT e89 v.ID).getD view0).ID).P),.int .u16 (((((hasT e89 v.ID).getD view0).Set):Nat):Int)]::obj g17 47 [.int .u64 ((v.ID.N:Nat):Int),.int .i64 v.ID.P,.int .u16 ((v.Set:Nat):Int)]::L)) (fun u hu => hu.drop) (fun u hu => hu.drop) hs209 ?_
 refine u_eff (k:=6) rfl ?_
 have hr210:kViewID.rep H148 v.ID [.int .u64 ((v.ID.N:Nat):Int),.int .i64 v.ID.P]:=⟨rfl,b1,⟨b2,b3⟩⟩
 refine st_c cb46 .func (evs2 (.tmp rfl rfl) (.tmp rfl rfl)) (next14_spec hs209 e5 (((((((hl16.mono hle27).mono hle38).mono hg78).mono hle105).mono hle125).mono hle133).mono hle149) v.ID hr210 ) ?_
 rintro e w211 ⟨H213,cs215,hle214,rfl,hr216,hs212⟩
 obtain ⟨rfl,b217,⟨b218,b219⟩⟩:=hr216
 refine ⟨_,rfl,?_⟩
 refine u_new (S':=fun u => St H213 u (obj g206 44 [.int .u64 0,.int .i64 0]::obj g112 47 [.int .u64 ((((((hasT e89 v.ID).getD view0).ID).N):Nat):Int),.int .i64 ((((hasT e89 v.ID).getD view0).ID).P),.int .u16 (((((hasT e89 v.ID).getD view0).Set):Nat):Int)]::obj g17 47 [.int .u64 ((v.ID.N:Nat):Int),.int .i64 v.ID.P,.int .u16 ((v.Set:Nat):Int)]::L)) rfl (fun u hu => hu.drop.weaken hle214) hs212 ?_
 refine u_eff (k:=8) rfl ?_
 refine st_m0 (sto44 (cs':=[.int .u64 ((((nextT e5 v.ID).N):Nat):Int),.int .i64 ((nextT e5 v.ID).P)]) (i:=0) hs212 (v:=.agg #[.int .u64 ((((nextT e5 v.ID).N):Nat):Int),.int .i64 ((nextT e5 v.ID).P)]) (.tmp rfl rfl) (.tmp rfl rfl) rfl (Nat.le_of_ble_eq_true rfl) (oneA rfl) rfl) ?_
 rintro w220 hs222
 refine u_new (S':=fun u => St H213 u (obj g206 44 [.int .u64 ((((nextT e5 v.ID).N):Nat):Int),.int .i64 ((nextT e5 v.ID).P)]::obj g112 47 [.int .u64 ((((((hasT e89 v.ID).getD view0).ID).N):Nat):Int),.int .i64 ((((hasT e89 v.ID).getD view0).ID).P),.int .u16 (((((hasT e89 v.ID).getD view0).Set):Nat):Int)]::obj g17 47 [.int .u64 ((v.ID.N:Nat):Int),.int .i64 v.ID.P,.int .u16 ((v.Set:Nat):Int)]::L)) rfl (fun u hu => hu.drop.weaken hle214) hs222 ?_
 refine u_nil ?_
 refine n_then (c_seq (t_region (L:=obj g206 44 [.int .u64 ((((nextT e5 v.ID).N):Nat):Int),.int .i64 ((nextT e5 v.ID).P)]::obj g112 47 [.int .u64 ((((((hasT e89 v.ID).getD view0).ID).N):Nat):Int),.int .i64 ((((hasT e89 v.ID).getD view0).ID).P),.int .u16 (((((hasT e89 v.ID).getD view0).Set):Nat):Int)]::obj g17 47 [.int .u64 ((v.ID.N:Nat):Int),.int .i64 v.ID.P,.int .u16 ((v.Set:Nat):Int)]::L) (L':=obj g206 44 [.int .u64 ((((nextT e5 v.ID).N):Nat):Int),.int .i64 ((nextT e5 v.ID).P)]::obj g112 47 [.int .u64 ((((((hasT e89 v.ID).getD view0).ID).N):Nat):Int),.int .i64 ((((hasT e89 v.ID).getD view0).ID).P),.int .u16 (((((hasT e89 v.ID).getD view0).Set):Nat):Int)]::obj g17 47 [.int .u64 ((v.ID.N:Nat):Int),.int .i64 v.ID.P,.int .u16 ((v.Set:Nat):Int)]::L) (Z:=[]) (F:=[]) (pl:=(.q 0 (.q 1 (.q 2 (.q 3 (.q 4 (.q 5 (.q 6 (.q 7 (.q 8 (.q 9 (.q 10 (.e 11 (.q 12 (.q 13 (.q 14 (.q 15 (.q 16 (.q 17 (.q 18 (.q 19 (.q 20 .done)))))))))))))))))))))) mixed hs222 (fun u hu => hu) (by kernel_rfl) ?_))
 intro w223 hs224
 refine t_st (k:=0) (v:=.pointer (some ⟨g206,0 + 0,none⟩)) rfl rfl (fun w hs => (fa44_0 (.tmp rfl rfl))) ?_
 refine t_st (k:=1) (v:=.int .u64 ((((nextT e5 v.ID).N):Nat):Int)) rfl rfl (fun w hs => (ld42 (.tmp rfl rfl) (hs.cell 0 rfl (0 + 0) rfl))) ?_
 refine t_st (k:=2) (v:=.bool (decide ((0:Int) < ((((nextT e5 v.ID).N):Nat):Int)))) rfl rfl (fun w hs => (x_gtr (k:=.u64) (a:=((((nextT e5 v.ID).N):Nat):Int)) (b:=0) (.tmp rfl rfl) .const)) ?_
 refine t_st (k:=3) (v:=.bool (decide ((0:Int) < ((((nextT e5 v.ID).N):Nat):Int)))) rfl rfl (fun w hs => (x_move (.tmp rfl rfl))) ?_
 rcases Bool.eq_false_or_eq_true (decide ((0:Int) < ((((nextT e5 v.ID).N):Nat):Int))) with hc225 | hc225
 have hp225:(0:Int) < ((((nextT e5 v.ID).N):Nat):Int):=of_decide_eq_true hc225
 refine t_yes (k:=4) (v:=.agg #[.int .u64 ((((nextT e5 v.ID).N):Nat):Int),.int .i64 ((nextT e5 v.ID).P)]) rfl rfl (yk 146 true rfl rfl hc225) (fun w hs => (ld44 (cs:=[.int .u64 ((((nextT e5 v.ID).N):Nat):Int),.int .i64 ((nextT e5 v.ID).P)]) (.tmp rfl rfl) (hs.at_ 0 rfl (0) rfl) rfl)) ?_
 refine t_yes (k:=5) (v:=.slice A_tr n_tr c_tr) rfl rfl (yk 146 true rfl rfl hc225) (fun w hs => (x_move (.tmp rfl hρ161))) ?_
 refine t_yes (k:=6) (v:=.int .i64 ((j:Nat):Int)) rfl rfl (yk 146 true rfl rfl hc225) (fun w hs => (x_move (.tmp rfl hρ166))) ?_
 refine t_yes (k:=7) (v:=.pointer (some ⟨b90,(o91 + j * 1),none⟩)) rfl rfl (yk 146 true rfl rfl hc225) (fun w hs => (ixo36 (.tmp rfl rfl) hA94 (i:=((j:Nat):Int)) (.tmp rfl rfl) (by omega) (by omega) (by omega))) ?_
 refine t_yes (k:=8) (v:=.slice A97 n98 c99) rfl rfl (yk 146 true rfl rfl hc225) (fun w hs => (ld41 (.tmp rfl rfl) ((hat96x (((((hs.weaken hle214).weaken hle149).weaken hle133).weaken hle125).weaken hle105)).cell 0 rfl))) ?_
 refine t_yes (k:=9) (v:=.pointer (some ⟨g17,0 + 0,none⟩)) rfl rfl (yk 146 true rfl rfl hc225) (fun w hs => (fa47_0 (.tmp rfl hρ163))) ?_
 refine t_yes (k:=10) (v:=.agg #[.int .u64 ((v.ID.N:Nat):Int),.int .i64 v.ID.P]) rfl rfl (yk 146 true rfl rfl hc225) (fun w hs => (ld44 (cs:=[.int .u64 ((v.ID.N:Nat):Int),.int .i64 v.ID.P]) (.tmp rfl rfl) (hs.at_ 2 rfl (0 + 0) rfl) rfl)) ?_
 refine t_eff (k:=11) rfl ?_
 refine g_yes (yk 146 true rfl rfl hc225) ?_
 have hr226:kViewID.rep H213 v.ID [.int .u64 ((v.ID.N:Nat):Int),.int .i64 v.ID.P]:=⟨rfl,b1,⟨b2,b3⟩⟩
 refine st_c cb46 .func (evs2 (.tmp rfl rfl) (.tmp rfl rfl)) (next14_spec hs224 e89 (((((hl100.mono hle105).mono hle125).mono hle133).mono hle149).mono hle214) v.ID hr226 ) ?_
 rintro e w227 ⟨H229,cs231,hle230,rfl,hr232,hs228⟩
 obtain ⟨rfl,b233,⟨b234,b235⟩⟩:=hr232
 refine ⟨_,rfl,?_⟩
 refine t_on (S':=fun u => St H229 u (obj g206 44 [.int .u64 ((((nextT e5 v.ID).N):Nat):Int),.int .i64 ((nextT e5 v.ID).P)]::obj g112 47 [.int .u64 ((((((hasT e89 v.ID).getD view0).ID).N):Nat):Int),.int .i64 ((((hasT e89 v.ID).getD view0).ID).P),.int .u16 (((((hasT e89 v.ID).getD view0).Set):Nat):Int)]::obj g17 47 [.int .u64 ((v.ID.N:Nat):Int),.int .i64 v.ID.P,.int .u16 ((v.Set:Nat):Int)]::L)) (fun u hu => hu.weaken hle230) hs228 ?_
 refine t_yes (k:=12) (v:=.bool ((((((nextT e5 v.ID).N):Nat):Int) == ((((nextT e89 v.ID).N):Nat):Int)) && ((((nextT e5 v.ID).P) == ((nextT e89 v.ID).P)) && true))) rfl rfl (yk 146 true rfl rfl hc225) (fun w hs => (x_eqlA eqg44 (.tmp rfl rfl) (.tmp rfl rfl) (fun d => eqs44 (d + 98) _ ((((nextT e5 v.ID).N):Nat):Int) ((((nextT e89 v.ID).N):Nat):Int) ((nextT e5 v.ID).P) ((nextT e89 v.ID).P)))) ?_
 refine t_st (k:=13) (v:=.bool (decide ((nextT e5 v.ID) = (nextT e89 v.ID)))) rfl rfl (fun w hs => (x_pick_t (.tmp rfl (cVb hc225)) (.tmp rfl (cVb (GViewID.beq_dec (nextT e5 v.ID) (nextT e89 v.ID)))))) ?_
 refine t_st (k:=14) (v:=.bool (decide ((nextT e5 v.ID) = (nextT e89 v.ID)))) rfl rfl (fun w hs => (x_move (.tmp rfl rfl))) ?_
 rcases Bool.eq_false_or_eq_true (decide ((nextT e5 v.ID) = (nextT e89 v.ID))) with hc236 | hc236
 have hp236:(nextT e5 v.ID) = (nextT e89 v.ID):=of_decide_eq_true hc236
 refine t_yes (k:=15) (v:=.slice A28 n29 c30) rfl rfl (yk 157 true rfl rfl hc236) (fun w hs => (x_move (.tmp rfl hρ164))) ?_
 refine t_yes (k:=16) (v:=.int .i64 ((n29:Nat):Int)) rfl rfl (yk 157 true rfl rfl hc236) (fun w hs => (x_len (n:=n29) Tryd.underlying25 (.tmp rfl rfl))) ?_
 refine t_yes (k:=17) (v:=.slice A126 n127 c128) rfl rfl (yk 157 true rfl rfl hc236) (fun w hs => (x_move (.tmp rfl hρ167))) ?_
 refine t_yes (k:=18) (v:=.int .i64 ((n127:Nat):Int)) rfl rfl (yk 157 true rfl rfl hc236) (fun w hs => (x_len (n:=n127) Tryd.underlying25 (.tmp rfl rfl))) ?_
 refine t_yes (k:=19) (v:=.bool (decide ((((n29:Nat):Int):Int) ≠ ((n127:Nat):Int)))) rfl rfl (yk 157 true rfl rfl hc236) (fun w hs => (x_neq (k:=.i64) (a:=((n29:Nat):Int)) (b:=((n127:Nat):Int)) (.tmp rfl rfl) (.tmp rfl rfl))) ?_
 refine t_st (k:=20) (v:=.bool (decide ((((n29:Nat):Int):Int) ≠ ((n127:Nat):Int)))) rfl rfl (fun w hs => (x_pick_t (.tmp rfl (cVb hc236)) (.tmp rfl rfl))) ?_
 refine t_nil ?_
 refine n_then ?_
 rcases Bool.eq_false_or_eq_true (decide ((((n29:Nat):Int):Int) ≠ ((n127:Nat):Int))) with hc237 | hc237
 have hp237:(((n29:Nat):Int):Int) ≠ ((n127:Nat):Int):=of_decide_eq_true hc237
 refine c_cond_t (t:=true) (.tmp rfl (cVb hc237)) rfl ?_
 refine c_seq (c_region (st (v:=.bool false) (x_assign .const) ?_))
 refine c_nil (n_then (c_ret (r_block (r_then (r_then (r_block (r_then (leave_ret (res_one (v:=.bool false) rfl (.mk rfl rfl)) ?_))))))))
 have hans238:inviewT tr i v = false:=inview_no2 (j:=j) (by omega) ((seeT_is hx9 hx93).trans (see_bad5 hc138 (by omega) (of_decide_eq_true hc236) (by omega)))
 rw [hans238]
 exact ⟨H229,((((((((hle27.trans hle38).trans hg78).trans hle105).trans hle125).trans hle133).trans hle149).trans hle214).trans hle230),rfl,hs228.drop.drop.drop⟩
 have hp237:¬ ((((n29:Nat):Int):Int) ≠ ((n127:Nat):Int)):=of_decide_eq_false hc237
 refine c_cond_f (t:=false) (.tmp rfl (cVb hc237)) rfl ?_
 refine c_skip (n_block (n_then (c_region (st (v:=.int .i64 ((j:Nat):Int)) (x_move (.tmp rfl hρ166)) ?_))))
 refine st (v:=.int .i64 (((j + 1):Nat):Int)) (x_add (k:=.i64) (a:=((j:Nat):Int)) (b:=1) (.tmp rfl rfl) .const ((w64 (by omega) (by omega)).trans (by omega))) ?_
 refine st (v:=.int .i64 (((j + 1):Nat):Int)) (x_assign (.tmp rfl rfl)) ?_
 refine c_nil ?_
 refine n_then ⟨_,_,rfl,?_,H229,(j + 1),hρ161,hρ162,hρ163,hρ164,hρ165,rfl,((((((hg78.trans hle105).trans hle125).trans hle133).trans hle149).trans hle214).trans hle230),(by omega),(see_next (p:=fun j => seeT tr i v j = true) hse ((seeT_is hx9 hx93).trans (see_ok hc138 (of_decide_eq_true hc141) (.inl hc144) hc156 (by have h9:=hc169; simp only [Bool.and_eq_false_iff,decide_eq_false_iff_not] at h9; rintro ⟨h8,h7⟩; rcases h9 with h9 | h9; omega; rw [h7] at h9; cases h9) (by rintro ⟨h8,h7,h6⟩; omega)))),hs228.drop.drop,rfl⟩
 omega
 have hp236:¬ ((nextT e5 v.ID) = (nextT e89 v.ID)):=of_decide_eq_false hc236
 refine t_no (k:=15) rfl (yk 157 false rfl rfl hc236) rfl ?_
 refine t_no (k:=16) rfl (yk 157 false rfl rfl hc236) rfl ?_
 refine t_no (k:=17) rfl (yk 157 false rfl rfl hc236) rfl ?_
 refine t_no (k:=18) rfl (yk 157 false rfl rfl hc236) rfl ?_
 refine t_no (k:=19) rfl (yk 157 false rfl rfl hc236) rfl ?_
 refine t_st (k:=20) (v:=.bool false) rfl rfl (fun w hs => (x_pick_f (.tmp rfl (cVb hc236)) .const)) ?_
 refine t_nil ?_
 refine n_then (c_cond_f (t:=false) (.tmp rfl rfl) rfl ?_)
 refine c_skip (n_block (n_then (c_region (st (v:=.int .i64 ((j:Nat):Int)) (x_move (.tmp rfl hρ166)) ?_))))
 refine st (v:=.int .i64 (((j + 1):Nat):Int)) (x_add (k:=.i64) (a:=((j:Nat):Int)) (b:=1) (.tmp rfl rfl) .const ((w64 (by omega) (by omega)).trans (by omega))) ?_
 refine st (v:=.int .i64 (((j + 1):Nat):Int)) (x_assign (.tmp rfl rfl)) ?_
 refine c_nil ?_
 refine n_then ⟨_,_,rfl,?_,H229,(j + 1),hρ161,hρ162,hρ163,hρ164,hρ165,rfl,((((((hg78.trans hle105).trans hle125).trans hle133).trans hle149).trans hle214).trans hle230),(by omega),(see_next (p:=fun j => seeT tr i v j = true) hse ((seeT_is hx9 hx93).trans (see_ok hc138 (of_decide_eq_true hc141) (.inl hc144) hc156 (by have h9:=hc169; simp only [Bool.and_eq_false_iff,decide_eq_false_iff_not] at h9; rintro ⟨h8,h7⟩; rcases h9 with h9 | h9; omega; rw [h7] at h9; cases h9) (by rintro ⟨h8,h7,h6⟩; exact absurd h7 (of_decide_eq_false hc236))))),hs228.drop.drop,rfl⟩
 omega
 have hp225:¬ ((0:Int) < ((((nextT e5 v.ID).N):Nat):Int)):=of_decide_eq_false hc225
 refine t_no (k:=4) rfl (yk 146 false rfl rfl hc225) rfl ?_
 refine t_no (k:=5) rfl (yk 146 false rfl rfl hc225) rfl ?_
 refine t_no (k:=6) rfl (yk 146 false rfl rfl hc225) rfl ?_
 refine t_no (k:=7) rfl (yk 146 false rfl rfl hc225) rfl ?_
 refine t_no (k:=8) rfl (yk 146 false rfl rfl hc225) rfl ?_
 refine t_no (k:=9) rfl (yk 146 false rfl rfl hc225) rfl ?_
 refine t_no (k:=10) rfl (yk 146 false rfl rfl hc225) rfl ?_
 refine t_eff (k:=11) rfl ?_
 refine g_no (yk 146 false rfl rfl hc225) rfl ?_
 refine t_on (S':=fun u => St H213 u (obj g206 44 [.int .u64 ((((nextT e5 v.ID).N):Nat):Int),.int .i64 ((nextT e5 v.ID).P)]::obj g112 47 [.int .u64 ((((((hasT e89 v.ID).getD view0).ID).N):Nat):Int),.int .i64 ((((hasT e89 v.ID).getD view0).ID).P),.int .u16 (((((hasT e89 v.ID).getD view0).Set):Nat):Int)]::obj g17 47 [.int .u64 ((v.ID.N:Nat):Int),.int .i64 v.ID.P,.int .u16 ((v.Set:Nat):Int)]::L)) (fun u hu => hu) hs224 ?_
 refine t_no (k:=12) rfl (yk 146 false rfl rfl hc225) rfl ?_
 refine t_st (k:=13) (v:=.bool false) rfl rfl (fun w hs => (x_pick_f (.tmp rfl (cVb hc225)) .const)) ?_
 refine t_st (k:=14) (v:=.bool false) rfl rfl (fun w hs => (x_move (.tmp rfl rfl))) ?_
 refine t_no (k:=15) rfl (yl (dj:=157) (b:=false) rfl rfl rfl) rfl ?_
 refine t_no (k:=16) rfl (yl (dj:=157) (b:=false) rfl rfl rfl) rfl ?_
 refine t_no (k:=17) rfl (yl (dj:=157) (b:=false) rfl rfl rfl) rfl ?_
 refine t_no (k:=18) rfl (yl (dj:=157) (b:=false) rfl rfl rfl) rfl ?_
 refine t_no (k:=19) rfl (yl (dj:=157) (b:=false) rfl rfl rfl) rfl ?_
 refine t_st (k:=20) (v:=.bool false) rfl rfl (fun w hs => (x_pick_f (.tmp rfl rfl) .const)) ?_
 refine t_nil ?_
 refine n_then (c_cond_f (t:=false) (.tmp rfl rfl) rfl ?_)
 refine c_skip (n_block (n_then (c_region (st (v:=.int .i64 ((j:Nat):Int)) (x_move (.tmp rfl hρ166)) ?_))))
 refine st (v:=.int .i64 (((j + 1):Nat):Int)) (x_add (k:=.i64) (a:=((j:Nat):Int)) (b:=1) (.tmp rfl rfl) .const ((w64 (by omega) (by omega)).trans (by omega))) ?_
 refine st (v:=.int .i64 (((j + 1):Nat):Int)) (x_assign (.tmp rfl rfl)) ?_
 refine c_nil ?_
 refine n_then ⟨_,_,rfl,?_,H213,(j + 1),hρ161,hρ162,hρ163,hρ164,hρ165,rfl,(((((hg78.trans hle105).trans hle125).trans hle133).trans hle149).trans hle214),(by omega),(see_next (p:=fun j => seeT tr i v j = true) hse ((seeT_is hx9 hx93).trans (see_ok hc138 (of_decide_eq_true hc141) (.inl hc144) hc156 (by have h9:=hc169; simp only [Bool.and_eq_false_iff,decide_eq_false_iff_not] at h9; rintro ⟨h8,h7⟩; rcases h9 with h9 | h9; omega; rw [h7] at h9; cases h9) (by rintro ⟨h8,h7,h6⟩; omega)))),hs224.drop.drop,rfl⟩
 omega
 refine c_cond_t (t:=true) (.tmp rfl (cVb (by rw [hc156]; rfl))) rfl ?_
 refine c_seq (c_region (st (v:=.bool false) (x_assign .const) ?_))
 refine c_nil (n_then (c_ret (r_then (r_block (r_then (r_then (r_block (r_then (leave_ret (res_one (v:=.bool false) rfl (.mk rfl rfl)) ?_)))))))))
 have hans239:inviewT tr i v = false:=inview_no2 (j:=j) (by omega) ((seeT_is hx9 hx93).trans (see_bad3 hc138 hc156))
 rw [hans239]
 exact ⟨H148,((((((hle27.trans hle38).trans hg78).trans hle105).trans hle125).trans hle133).trans hle149),rfl,hs155.drop.drop⟩
 refine t_yes (k:=9) (v:=.slice A126 n127 c128) rfl rfl (yl (dj:=106) (b:=true) rfl rfl (cVb (by rw [hc144]; rfl))) (fun w hs => (x_move (.tmp rfl rfl))) ?_
 refine t_yes (k:=10) (v:=.slice A28 n29 c30) rfl rfl (yl (dj:=106) (b:=true) rfl rfl (cVb (by rw [hc144]; rfl))) (fun w hs => (x_move (.tmp rfl hρ82))) ?_
 refine t_eff (k:=11) rfl ?_
 refine g_yes (yl (dj:=106) (b:=true) rfl rfl (cVb (by rw [hc144]; rfl))) ?_
 refine st_c cb42 .func (evs2 (.tmp rfl rfl) (.tmp rfl rfl)) (begins14_spec hs143 (itemsT e89 ((j:Nat):Int) 3 v.ID) (sp129.mono hle133) (itemsT e5 ((i:Nat):Int) 3 v.ID) (((((sp31.mono hle38).mono hg78).mono hle105).mono hle125).mono hle133) ) ?_
 rintro e w240 ⟨rfl,hs241⟩
 refine ⟨_,rfl,?_⟩
 refine t_new (S':=fun u => St H132 u (obj g112 47 [.int .u64 ((((((hasT e89 v.ID).getD view0).ID).N):Nat):Int),.int .i64 ((((hasT e89 v.ID).getD view0).ID).P),.int .u16 (((((hasT e89 v.ID).getD view0).Set):Nat):Int)]::obj g17 47 [.int .u64 ((v.ID.N:Nat):Int),.int .i64 v.ID.P,.int .u16 ((v.Set:Nat):Int)]::L)) rfl hs241 ?_
 refine t_yes (k:=12) (v:=.bool (!(beginsT (itemsT e89 ((j:Nat):Int) 3 v.ID) (itemsT e5 ((i:Nat):Int) 3 v.ID)))) rfl rfl (yl (dj:=106) (b:=true) rfl rfl (cVb (by rw [hc144]; rfl))) (fun w hs => (x_not (.tmp rfl rfl))) ?_
 refine t_yes (k:=13) (v:=.bool (!(beginsT (itemsT e89 ((j:Nat):Int) 3 v.ID) (itemsT e5 ((i:Nat):Int) 3 v.ID)))) rfl rfl (yl (dj:=101) (b:=false) rfl rfl (cVb (by rw [hc141]; rfl))) (fun w hs => (x_pick_t (.tmp rfl (cVb (by rw [hc144]; rfl))) (.tmp rfl rfl))) ?_
 refine t_st (k:=14) (v:=.bool (!(beginsT (itemsT e89 ((j:Nat):Int) 3 v.ID) (itemsT e5 ((i:Nat):Int) 3 v.ID)))) rfl rfl (fun w hs => (x_pick_f (.tmp rfl (cVb (by rw [hc141]; rfl))) (.tmp rfl rfl))) ?_
 refine t_st (k:=15) (v:=.bool (!(beginsT (itemsT e89 ((j:Nat):Int) 3 v.ID) (itemsT e5 ((i:Nat):Int) 3 v.ID)))) rfl rfl (fun w hs => (x_move (.tmp rfl rfl))) ?_
 rcases Bool.eq_false_or_eq_true (beginsT (itemsT e89 ((j:Nat):Int) 3 v.ID) (itemsT e5 ((i:Nat):Int) 3 v.ID)) with hc242 | hc242
 refine t_yes (k:=16) (v:=.slice A134 n135 c136) rfl rfl (yl (dj:=113) (b:=false) rfl rfl (cVb (by rw [hc242]; rfl))) (fun w hs => (x_move (.tmp rfl rfl))) ?_
 refine t_yes (k:=17) (v:=.slice A_tr n_tr c_tr) rfl rfl (yl (dj:=113) (b:=false) rfl rfl (cVb (by rw [hc242]; rfl))) (fun w hs => (x_move (.tmp rfl hρ79))) ?_
 refine t_yes (k:=18) (v:=.int .i64 ((j:Nat):Int)) rfl rfl (yl (dj:=113) (b:=false) rfl rfl (cVb (by rw [hc242]; rfl))) (fun w hs => (x_move (.tmp rfl hρ84))) ?_
 refine t_yes (k:=19) (v:=.pointer (some ⟨b90,(o91 + j * 1),none⟩)) rfl rfl (yl (dj:=113) (b:=false) rfl rfl (cVb (by rw [hc242]; rfl))) (fun w hs => (ixo36 (.tmp rfl rfl) hA94 (i:=((j:Nat):Int)) (.tmp rfl rfl) (by omega) (by omega) (by omega))) ?_
 refine t_yes (k:=20) (v:=.slice A97 n98 c99) rfl rfl (yl (dj:=113) (b:=false) rfl rfl (cVb (by rw [hc242]; rfl))) (fun w hs => (ld41 (.tmp rfl rfl) ((hat96x (((hs.weaken hle133).weaken hle125).weaken hle105)).cell 0 rfl))) ?_
 refine t_yes (k:=21) (v:=.int .i64 ((j:Nat):Int)) rfl rfl (yl (dj:=113) (b:=false) rfl rfl (cVb (by rw [hc242]; rfl))) (fun w hs => (x_move (.tmp rfl hρ84))) ?_
 refine t_yes (k:=22) (v:=.pointer (some ⟨g17,0 + 0,none⟩)) rfl rfl (yl (dj:=113) (b:=false) rfl rfl (cVb (by rw [hc242]; rfl))) (fun w hs => (fa47_0 (.tmp rfl hρ81))) ?_
 refine t_yes (k:=23) (v:=.agg #[.int .u64 ((v.ID.N:Nat):Int),.int .i64 v.ID.P]) rfl rfl (yl (dj:=113) (b:=false) rfl rfl (cVb (by rw [hc242]; rfl))) (fun w hs => (ld44 (cs:=[.int .u64 ((v.ID.N:Nat):Int),.int .i64 v.ID.P]) (.tmp rfl rfl) (hs.at_ 1 rfl (0 + 0) rfl) rfl)) ?_
 refine t_eff (k:=24) rfl ?_
 refine g_yes (yl (dj:=113) (b:=false) rfl rfl (cVb (by rw [hc242]; rfl))) ?_
 have hr243:kViewID.rep H132 v.ID [.int .u64 ((v.ID.N:Nat):Int),.int .i64 v.ID.P]:=⟨rfl,b1,⟨b2,b3⟩⟩
 refine st_c cb43 .func (evs4 (.tmp rfl rfl) (.tmp rfl rfl) .const (.tmp rfl rfl)) (items14_spec hs241 e89 (((hl100.mono hle105).mono hle125).mono hle133) ((j:Nat):Int) ⟨by omega,by omega⟩ 2 (by decide) v.ID hr243 ) ?_
 rintro e w244 ⟨H246,A248,n249,c250,hle247,rfl,sp251,hs245⟩
 have:=sp251.len; have:=sp251.le; have:n249 * 32 ≤ 140737488351232:=sp251.bnd
 refine ⟨_,rfl,?_⟩
 refine t_on (S':=fun u => St H246 u (obj g112 47 [.int .u64 ((((((hasT e89 v.ID).getD view0).ID).N):Nat):Int),.int .i64 ((((hasT e89 v.ID).getD view0).ID).P),.int .u16 (((((hasT e89 v.ID).getD view0).Set):Nat):Int)]::obj g17 47 [.int .u64 ((v.ID.N:Nat):Int),.int .i64 v.ID.P,.int .u16 ((v.Set:Nat):Int)]::L)) (fun u hu => hu.weaken hle247) hs245 ?_
 refine t_eff (k:=25) rfl ?_
 refine g_yes (yl (dj:=113) (b:=false) rfl rfl (cVb (by rw [hc242]; rfl))) ?_
 refine st_c cb42 .func (evs2 (.tmp rfl rfl) (.tmp rfl rfl)) (begins14_spec hs245 (fromT (itemsT e5 ((i:Nat):Int) 3 v.ID) ((j:Nat):Int)) (sp137.mono hle247) (itemsT e89 ((j:Nat):Int) 2 v.ID) sp251 ) ?_
 rintro e w252 ⟨rfl,hs253⟩
 refine ⟨_,rfl,?_⟩
 refine t_on (S':=fun u => St H246 u (obj g112 47 [.int .u64 ((((((hasT e89 v.ID).getD view0).ID).N):Nat):Int),.int .i64 ((((hasT e89 v.ID).getD view0).ID).P),.int .u16 (((((hasT e89 v.ID).getD view0).Set):Nat):Int)]::obj g17 47 [.int .u64 ((v.ID.N:Nat):Int),.int .i64 v.ID.P,.int .u16 ((v.Set:Nat):Int)]::L)) (fun u hu => hu) hs253 ?_
 refine t_yes (k:=26) (v:=.bool (!(beginsT (fromT (itemsT e5 ((i:Nat):Int) 3 v.ID) ((j:Nat):Int)) (itemsT e89 ((j:Nat):Int) 2 v.ID)))) rfl rfl (yl (dj:=113) (b:=false) rfl rfl (cVb (by rw [hc242]; rfl))) (fun w hs => (x_not (.tmp rfl rfl))) ?_
 refine t_st (k:=27) (v:=.bool (!(beginsT (fromT (itemsT e5 ((i:Nat):Int) 3 v.ID) ((j:Nat):Int)) (itemsT e89 ((j:Nat):Int) 2 v.ID)))) rfl rfl (fun w hs => (x_pick_f (.tmp rfl (cVb (by rw [hc242]; rfl))) (.tmp rfl rfl))) ?_
 refine t_nil ?_
 refine n_then ?_
 rcases Bool.eq_false_or_eq_true (beginsT (fromT (itemsT e5 ((i:Nat):Int) 3 v.ID) ((j:Nat):Int)) (itemsT e89 ((j:Nat):Int) 2 v.ID)) with hc254 | hc254
 refine c_cond_f (t:=false) (.tmp rfl (cVb (by rw [hc254]; rfl))) rfl ?_
 refine c_skip (n_then (c_seq (c_seq (c_region (st (v:=.int .i64 ((n40:Nat):Int)) (x_move (.tmp rfl hρ83)) ?_)))))
 refine st (v:=.slice A126 n127 c128) (x_move (.tmp rfl rfl)) ?_
 refine st (v:=.int .i64 ((n127:Nat):Int)) (x_len (n:=n127) Tryd.underlying25 (.tmp rfl rfl)) ?_
 refine st (v:=.bool (decide ((((n127:Nat):Int):Int) < ((n40:Nat):Int)))) (x_gtr (k:=.i64) (a:=((n40:Nat):Int)) (b:=((n127:Nat):Int)) (.tmp rfl rfl) (.tmp rfl rfl)) ?_
 refine st (v:=.bool (decide ((((n127:Nat):Int):Int) < ((n40:Nat):Int)))) (x_move (.tmp rfl rfl)) ?_
 refine jw 5 (fun ρ w => ρ 135 = .bool ((decide ((((n127:Nat):Int):Int) < ((n40:Nat):Int))) && (has v.Set ((j:Nat):Int)))∧ρ 0 = .slice A_tr n_tr c_tr∧ρ 1 = .int .i64 ((i:Nat):Int)∧ρ 5 = .pointer (some ⟨g17,0,none⟩)∧ρ 7 = .slice A28 n29 c30∧ρ 8 = .int .i64 ((n40:Nat):Int)∧ρ 10 = .int .i64 ((j:Nat):Int)∧ρ 13 = .slice A126 n127 c128∧St H246 w (obj g112 47 [.int .u64 ((((((hasT e89 v.ID).getD view0).ID).N):Nat):Int),.int .i64 ((((hasT e89 v.ID).getD view0).ID).P),.int .u16 (((((hasT e89 v.ID).getD view0).Set):Nat):Int)]::obj g17 47 [.int .u64 ((v.ID.N:Nat):Int),.int .i64 v.ID.P,.int .u16 ((v.Set:Nat):Int)]::L)) ?_ ?_
 rcases Bool.eq_false_or_eq_true (decide ((((n127:Nat):Int):Int) < ((n40:Nat):Int))) with hc255 | hc255
 have hp255:(((n127:Nat):Int):Int) < ((n40:Nat):Int):=of_decide_eq_true hc255
 refine g_yes (yk 130 true rfl rfl hc255) ?_
 refine st (v:=.pointer (some ⟨g17,0 + 2,none⟩)) (fa47_1 (.tmp rfl hρ81)) ?_
 refine g_yes (yk 130 true rfl rfl hc255) ?_
 refine st (v:=.int .u16 ((v.Set:Nat):Int)) (ld45 (.tmp rfl rfl) (hs253.cell 1 rfl (0 + 2) rfl)) ?_
 refine g_yes (yk 130 true rfl rfl hc255) ?_
 refine st (v:=.int .i64 ((j:Nat):Int)) (x_move (.tmp rfl hρ84)) ?_
 refine g_yes (yk 130 true rfl rfl hc255) ?_
 refine st_c cb40 .func (evs2 (.tmp rfl rfl) (.tmp rfl rfl)) (rhas_spec hs253 v.Set ((j:Nat):Int) b4 (by omega)) ?_
 rintro e w256 ⟨rfl,hs257⟩
 refine ⟨_,rfl,?_⟩
 refine st (v:=.bool (has v.Set ((j:Nat):Int))) (x_pick_t (.tmp rfl (cVb hc255)) (.tmp rfl rfl)) ?_
 exact jw_end ⟨(cVb (jand_t hc255)),hρ79,hρ80,hρ81,hρ82,hρ83,hρ84,rfl,hs257⟩
 have hp255:¬ ((((n127:Nat):Int):Int) < ((n40:Nat):Int)):=of_decide_eq_false hc255
 refine g_no (yk 130 false rfl rfl hc255) rfl ?_
 refine g_no (yk 130 false rfl rfl hc255) rfl ?_
 refine g_no (yk 130 false rfl rfl hc255) rfl ?_
 refine g_no (yk 130 false rfl rfl hc255) rfl ?_
 refine st (v:=.bool false) (x_pick_f (.tmp rfl (cVb hc255)) .const) ?_
 exact jw_end ⟨(cVb (jand_f hc255)),hρ79,hρ80,hρ81,hρ82,hρ83,hρ84,rfl,hs253⟩
 rintro ρ w ⟨hρ258,hρ259,hρ260,hρ261,hρ262,hρ263,hρ264,hρ265,hs266⟩
 refine c_nil (n_then ?_)
 rcases Bool.eq_false_or_eq_true ((decide ((((n127:Nat):Int):Int) < ((n40:Nat):Int))) && (has v.Set ((j:Nat):Int))) with hc267 | hc267
 have hp267:((((n127:Nat):Int):Int) < ((n40:Nat):Int))∧((has v.Set ((j:Nat):Int)) = true):=((J_and decide_eq_true_iff Iff.rfl)).1 hc267
 refine c_cond_t (t:=true) (.tmp rfl (hρ258.trans (cVb hc267))) rfl ?_
 refine c_seq (c_region (st (v:=.bool false) (x_assign .const) ?_))
 refine c_nil (n_then (c_ret (r_then (r_block (r_then (r_then (r_block (r_then (leave_ret (res_one (v:=.bool false) rfl (.mk rfl rfl)) ?_)))))))))
 have hans268:inviewT tr i v = false:=inview_no2 (j:=j) (by omega) ((seeT_is hx9 hx93).trans (see_bad4 hc138 (by have h9:=hc267; simp only [Bool.and_eq_true,decide_eq_true_eq] at h9; have:=h9.1; omega) (by have h9:=hc267; simp only [Bool.and_eq_true,decide_eq_true_eq] at h9; exact h9.2)))
 rw [hans268]
 exact ⟨H246,((((((hle27.trans hle38).trans hg78).trans hle105).trans hle125).trans hle133).trans hle247),rfl,hs266.drop.drop⟩
 have hp267:¬ (((((n127:Nat):Int):Int) < ((n40:Nat):Int))∧((has v.Set ((j:Nat):Int)) = true)):=J_no (J_and decide_eq_true_iff Iff.rfl) hc267
 refine c_cond_f (t:=false) (.tmp rfl (hρ258.trans (cVb hc267))) rfl ?_
 refine c_skip (n_then (c_seq (u_region (L:=obj g112 47 [.int .u64 ((((((hasT e89 v.ID).getD view0).ID).N):Nat):Int),.int .i64 ((((hasT e89 v.ID).getD view0).ID).P),.int .u16 (((((hasT e89 v.ID).getD view0).Set):Nat):Int)]::obj g17 47 [.int .u64 ((v.ID.N:Nat):Int),.int .i64 v.ID.P,.int .u16 ((v.Set:Nat):Int)]::L) (L':=obj g112 47 [.int .u64 ((((((hasT e89 v.ID).getD view0).ID).N):Nat):Int),.int .i64 ((((hasT e89 v.ID).getD view0).ID).P),.int .u16 (((((hasT e89 v.ID).getD view0).Set):Nat):Int)]::obj g17 47 [.int .u64 ((v.ID.N:Nat):Int),.int .i64 v.ID.P,.int .u16 ((v.Set:Nat):Int)]::L) (Z:=[6,8]) (F:=[]) (Lw:=obj g112 47 [.int .u64 ((((((hasT e89 v.ID).getD view0).ID).N):Nat):Int),.int .i64 ((((hasT e89 v.ID).getD view0).ID).P),.int .u16 (((((hasT e89 v.ID).getD view0).Set):Nat):Int)]::obj g17 47 [.int .u64 ((v.ID.N:Nat):Int),.int .i64 v.ID.P,.int .u16 ((v.Set:Nat):Int)]::L) (pl:=(.q 0 (.q 1 (.q 2 (.q 3 (.q 4 (.q 5 (.two 6 (.e 7 (.e 8 .done)) 7 (.e 6 (.e 8 .done)))))))))) mixed hs266 (fun u hu => hu) (fun u hu => hu) (by kernel_rfl) ?_)))
 intro w269 hs270
 refine u_st (k:=0) (v:=.slice A_tr n_tr c_tr) rfl rfl (fun w hs => (x_move (.tmp rfl hρ259))) ?_
 refine u_st (k:=1) (v:=.int .i64 ((i:Nat):Int)) rfl rfl (fun w hs => (x_move (.tmp rfl hρ260))) ?_
 refine u_st (k:=2) (v:=.pointer (some ⟨b6,(o7 + i * 1),none⟩)) rfl rfl (fun w hs => (ixo36 (.tmp rfl rfl) hA10 (i:=((i:Nat):Int)) (.tmp rfl rfl) (by omega) (by omega) (by omega))) ?_
 refine u_st (k:=3) (v:=.slice A13 n14 c15) rfl rfl (fun w hs => (ld41 (.tmp rfl rfl) ((hat12x (((((((hs.weaken hle247).weaken hle133).weaken hle125).weaken hle105).weaken hg78).weaken hle38).weaken hle27)).cell 0 rfl))) ?_
 refine u_st (k:=4) (v:=.pointer (some ⟨g17,0 + 0,none⟩)) rfl rfl (fun w hs => (fa47_0 (.tmp rfl hρ261))) ?_
 refine u_st (k:=5) (v:=.agg #[.int .u64 ((v.ID.N:Nat):Int),.int .i64 v.ID.P]) rfl rfl (fun w hs => (ld44 (cs:=[.int .u64 ((v.ID.N:Nat):Int),.int .i64 v.ID.P]) (.tmp rfl rfl) (hs.at_ 1 rfl (0 + 0) rfl) rfl)) ?_
 refine u_two ?_ ?_
 refine u_eff (k:=6) rfl ?_
 have hr271:kViewID.rep H246 v.ID [.int .u64 ((v.ID.N:Nat):Int),.int .i64 v.ID.P]:=⟨rfl,b1,⟨b2,b3⟩⟩
 refine st_c cb46 .func (evs2 (.tmp rfl rfl) (.tmp rfl rfl)) (next14_spec hs270 e5 (((((((hl16.mono hle27).mono hle38).mono hg78).mono hle105).mono hle125).mono hle133).mono hle247) v.ID hr271 ) ?_
 rintro e w272 ⟨H274,cs276,hle275,rfl,hr277,hs273⟩
 obtain ⟨rfl,b278,⟨b279,b280⟩⟩:=hr277
 refine ⟨_,rfl,?_⟩
 refine u_new (S':=fun u => St H274 u (obj g112 47 [.int .u64 ((((((hasT e89 v.ID).getD view0).ID).N):Nat):Int),.int .i64 ((((hasT e89 v.ID).getD view0).ID).P),.int .u16 (((((hasT e89 v.ID).getD view0).Set):Nat):Int)]::obj g17 47 [.int .u64 ((v.ID.N:Nat):Int),.int .i64 v.ID.P,.int .u16 ((v.Set:Nat):Int)]::L)) rfl (fun u hu => hu.weaken hle275) hs273 ?_
 refine u_eff (k:=7) rfl ?_
 refine st_m (al44 (cs:=[.int .u64 0,.int .i64 0]) hs273 rfl) ?_
 rintro _ w282 ⟨g281,rfl,hs284⟩
 refine u_on (S':=fun u => St H274 u (obj g281 44 [.int .u64 0,.int .i64 0]::obj g112 47 [.int .u64 ((((((hasT e89 v.ID).getD view0).ID).N):Nat):Int),.int .i64 ((((hasT e89 v.ID).getD view0).ID).P),.int .u16 (((((hasT e89 v.ID).getD view0).Set):Nat):Int)]::obj g17 47 [.int .u64 ((v.ID.N:Nat):Int),.int .i64 v.ID.P,.int .u16 ((v.Set:Nat):Int)]::L)) (fun u hu => hu.drop) (fun u hu => hu.drop.weaken hle275) hs284 ?_
 refine u_eff (k:=8) rfl ?_
 refine st_m0 (sto44 (cs':=[.int .u64 ((((nextT e5 v.ID).N):Nat):Int),.int .i64 ((nextT e5 v.ID).P)]) (i:=0) hs284 (v:=.agg #[.int .u64 ((((nextT e5 v.ID).N):Nat):Int),.int .i64 ((nextT e5 v.ID).P)]) (.tmp rfl rfl) (.tmp rfl rfl) rfl (Nat.le_of_ble_eq_true rfl) (oneA rfl) rfl) ?_
 rintro w285 hs287
 refine u_new (S':=fun u => St H274 u (obj g281 44 [.int .u64 ((((nextT e5 v.ID).N):Nat):Int),.int .i64 ((nextT e5 v.ID).P)]::obj g112 47 [.int .u64 ((((((hasT e89 v.ID).getD view0).ID).N):Nat):Int),.int .i64 ((((hasT e89 v.ID).getD view0).ID).P),.int .u16 (((((hasT e89 v.ID).getD view0).Set):Nat):Int)]::obj g17 47 [.int .u64 ((v.ID.N:Nat):Int),.int .i64 v.ID.P,.int .u16 ((v.Set:Nat):Int)]::L)) rfl (fun u hu => hu.drop.weaken hle275) hs287 ?_
 refine u_nil ?_
 refine n_then (c_seq (t_region (L:=obj g281 44 [.int .u64 ((((nextT e5 v.ID).N):Nat):Int),.int .i64 ((nextT e5 v.ID).P)]::obj g112 47 [.int .u64 ((((((hasT e89 v.ID).getD view0).ID).N):Nat):Int),.int .i64 ((((hasT e89 v.ID).getD view0).ID).P),.int .u16 (((((hasT e89 v.ID).getD view0).Set):Nat):Int)]::obj g17 47 [.int .u64 ((v.ID.N:Nat):Int),.int .i64 v.ID.P,.int .u16 ((v.Set:Nat):Int)]::L) (L':=obj g281 44 [.int .u64 ((((nextT e5 v.ID).N):Nat):Int),.int .i64 ((nextT e5 v.ID).P)]::obj g112 47 [.int .u64 ((((((hasT e89 v.ID).getD view0).ID).N):Nat):Int),.int .i64 ((((hasT e89 v.ID).getD view0).ID).P),.int .u16 (((((hasT e89 v.ID).getD view0).Set):Nat):Int)]::obj g17 47 [.int .u64 ((v.ID.N:Nat):Int),.int .i64 v.ID.P,.int .u16 ((v.Set:Nat):Int)]::L) (Z:=[]) (F:=[]) (pl:=(.q 0 (.q 1 (.q 2 (.q 3 (.q 4 (.q 5 (.q 6 (.q 7 (.q 8 (.q 9 (.q 10 (.e 11 (.q 12 (.q 13 (.q 14 (.q 15 (.q 16 (.q 17 (.q 18 (.q 19 (.q 20 .done)))))))))))))))))))))) mixed hs287 (fun u hu => hu) (by kernel_rfl) ?_))
 intro w288 hs289
 refine t_st (k:=0) (v:=.pointer (some ⟨g281,0 + 0,none⟩)) rfl rfl (fun w hs => (fa44_0 (.tmp rfl rfl))) ?_
 refine t_st (k:=1) (v:=.int .u64 ((((nextT e5 v.ID).N):Nat):Int)) rfl rfl (fun w hs => (ld42 (.tmp rfl rfl) (hs.cell 0 rfl (0 + 0) rfl))) ?_
 refine t_st (k:=2) (v:=.bool (decide ((0:Int) < ((((nextT e5 v.ID).N):Nat):Int)))) rfl rfl (fun w hs => (x_gtr (k:=.u64) (a:=((((nextT e5 v.ID).N):Nat):Int)) (b:=0) (.tmp rfl rfl) .const)) ?_
 refine t_st (k:=3) (v:=.bool (decide ((0:Int) < ((((nextT e5 v.ID).N):Nat):Int)))) rfl rfl (fun w hs => (x_move (.tmp rfl rfl))) ?_
 rcases Bool.eq_false_or_eq_true (decide ((0:Int) < ((((nextT e5 v.ID).N):Nat):Int))) with hc290 | hc290
 have hp290:(0:Int) < ((((nextT e5 v.ID).N):Nat):Int):=of_decide_eq_true hc290
 refine t_yes (k:=4) (v:=.agg #[.int .u64 ((((nextT e5 v.ID).N):Nat):Int),.int .i64 ((nextT e5 v.ID).P)]) rfl rfl (yk 146 true rfl rfl hc290) (fun w hs => (ld44 (cs:=[.int .u64 ((((nextT e5 v.ID).N):Nat):Int),.int .i64 ((nextT e5 v.ID).P)]) (.tmp rfl rfl) (hs.at_ 0 rfl (0) rfl) rfl)) ?_
 refine t_yes (k:=5) (v:=.slice A_tr n_tr c_tr) rfl rfl (yk 146 true rfl rfl hc290) (fun w hs => (x_move (.tmp rfl hρ259))) ?_
 refine t_yes (k:=6) (v:=.int .i64 ((j:Nat):Int)) rfl rfl (yk 146 true rfl rfl hc290) (fun w hs => (x_move (.tmp rfl hρ264))) ?_
 refine t_yes (k:=7) (v:=.pointer (some ⟨b90,(o91 + j * 1),none⟩)) rfl rfl (yk 146 true rfl rfl hc290) (fun w hs => (ixo36 (.tmp rfl rfl) hA94 (i:=((j:Nat):Int)) (.tmp rfl rfl) (by omega) (by omega) (by omega))) ?_
 refine t_yes (k:=8) (v:=.slice A97 n98 c99) rfl rfl (yk 146 true rfl rfl hc290) (fun w hs => (ld41 (.tmp rfl rfl) ((hat96x (((((hs.weaken hle275).weaken hle247).weaken hle133).weaken hle125).weaken hle105)).cell 0 rfl))) ?_
 refine t_yes (k:=9) (v:=.pointer (some ⟨g17,0 + 0,none⟩)) rfl rfl (yk 146 true rfl rfl hc290) (fun w hs => (fa47_0 (.tmp rfl hρ261))) ?_
 refine t_yes (k:=10) (v:=.agg #[.int .u64 ((v.ID.N:Nat):Int),.int .i64 v.ID.P]) rfl rfl (yk 146 true rfl rfl hc290) (fun w hs => (ld44 (cs:=[.int .u64 ((v.ID.N:Nat):Int),.int .i64 v.ID.P]) (.tmp rfl rfl) (hs.at_ 2 rfl (0 + 0) rfl) rfl)) ?_
 refine t_eff (k:=11) rfl ?_
 refine g_yes (yk 146 true rfl rfl hc290) ?_
 have hr291:kViewID.rep H274 v.ID [.int .u64 ((v.ID.N:Nat):Int),.int .i64 v.ID.P]:=⟨rfl,b1,⟨b2,b3⟩⟩
 refine st_c cb46 .func (evs2 (.tmp rfl rfl) (.tmp rfl rfl)) (next14_spec hs289 e89 (((((hl100.mono hle105).mono hle125).mono hle133).mono hle247).mono hle275) v.ID hr291 ) ?_
 rintro e w292 ⟨H294,cs296,hle295,rfl,hr297,hs293⟩
 obtain ⟨rfl,b298,⟨b299,b300⟩⟩:=hr297
 refine ⟨_,rfl,?_⟩
 refine t_on (S':=fun u => St H294 u (obj g281 44 [.int .u64 ((((nextT e5 v.ID).N):Nat):Int),.int .i64 ((nextT e5 v.ID).P)]::obj g112 47 [.int .u64 ((((((hasT e89 v.ID).getD view0).ID).N):Nat):Int),.int .i64 ((((hasT e89 v.ID).getD view0).ID).P),.int .u16 (((((hasT e89 v.ID).getD view0).Set):Nat):Int)]::obj g17 47 [.int .u64 ((v.ID.N:Nat):Int),.int .i64 v.ID.P,.int .u16 ((v.Set:Nat):Int)]::L)) (fun u hu => hu.weaken hle295) hs293 ?_
 refine t_yes (k:=12) (v:=.bool ((((((nextT e5 v.ID).N):Nat):Int) == ((((nextT e89 v.ID).N):Nat):Int)) && ((((nextT e5 v.ID).P) == ((nextT e89 v.ID).P)) && true))) rfl rfl (yk 146 true rfl rfl hc290) (fun w hs => (x_eqlA eqg44 (.tmp rfl rfl) (.tmp rfl rfl) (fun d => eqs44 (d + 98) _ ((((nextT e5 v.ID).N):Nat):Int) ((((nextT e89 v.ID).N):Nat):Int) ((nextT e5 v.ID).P) ((nextT e89 v.ID).P)))) ?_
 refine t_st (k:=13) (v:=.bool (decide ((nextT e5 v.ID) = (nextT e89 v.ID)))) rfl rfl (fun w hs => (x_pick_t (.tmp rfl (cVb hc290)) (.tmp rfl (cVb (GViewID.beq_dec (nextT e5 v.ID) (nextT e89 v.ID)))))) ?_
 refine t_st (k:=14) (v:=.bool (decide ((nextT e5 v.ID) = (nextT e89 v.ID)))) rfl rfl (fun w hs => (x_move (.tmp rfl rfl))) ?_
 rcases Bool.eq_false_or_eq_true (decide ((nextT e5 v.ID) = (nextT e89 v.ID))) with hc301 | hc301
 have hp301:(nextT e5 v.ID) = (nextT e89 v.ID):=of_decide_eq_true hc301
 refine t_yes (k:=15) (v:=.slice A28 n29 c30) rfl rfl (yk 157 true rfl rfl hc301) (fun w hs => (x_move (.tmp rfl hρ262))) ?_
 refine t_yes (k:=16) (v:=.int .i64 ((n29:Nat):Int)) rfl rfl (yk 157 true rfl rfl hc301) (fun w hs => (x_len (n:=n29) Tryd.underlying25 (.tmp rfl rfl))) ?_
 refine t_yes (k:=17) (v:=.slice A126 n127 c128) rfl rfl (yk 157 true rfl rfl hc301) (fun w hs => (x_move (.tmp rfl hρ265))) ?_
 refine t_yes (k:=18) (v:=.int .i64 ((n127:Nat):Int)) rfl rfl (yk 157 true rfl rfl hc301) (fun w hs => (x_len (n:=n127) Tryd.underlying25 (.tmp rfl rfl))) ?_
 refine t_yes (k:=19) (v:=.bool (decide ((((n29:Nat):Int):Int) ≠ ((n127:Nat):Int)))) rfl rfl (yk 157 true rfl rfl hc301) (fun w hs => (x_neq (k:=.i64) (a:=((n29:Nat):Int)) (b:=((n127:Nat):Int)) (.tmp rfl rfl) (.tmp rfl rfl))) ?_
 refine t_st (k:=20) (v:=.bool (decide ((((n29:Nat):Int):Int) ≠ ((n127:Nat):Int)))) rfl rfl (fun w hs => (x_pick_t (.tmp rfl (cVb hc301)) (.tmp rfl rfl))) ?_
 refine t_nil ?_
 refine n_then ?_
 rcases Bool.eq_false_or_eq_true (decide ((((n29:Nat):Int):Int) ≠ ((n127:Nat):Int))) with hc302 | hc302
 have hp302:(((n29:Nat):Int):Int) ≠ ((n127:Nat):Int):=of_decide_eq_true hc302
 refine c_cond_t (t:=true) (.tmp rfl (cVb hc302)) rfl ?_
 refine c_seq (c_region (st (v:=.bool false) (x_assign .const) ?_))
 refine c_nil (n_then (c_ret (r_block (r_then (r_then (r_block (r_then (leave_ret (res_one (v:=.bool false) rfl (.mk rfl rfl)) ?_))))))))
 have hans303:inviewT tr i v = false:=inview_no2 (j:=j) (by omega) ((seeT_is hx9 hx93).trans (see_bad5 hc138 (by omega) (of_decide_eq_true hc301) (by omega)))
 rw [hans303]
 exact ⟨H294,((((((((hle27.trans hle38).trans hg78).trans hle105).trans hle125).trans hle133).trans hle247).trans hle275).trans hle295),rfl,hs293.drop.drop.drop⟩
 have hp302:¬ ((((n29:Nat):Int):Int) ≠ ((n127:Nat):Int)):=of_decide_eq_false hc302
 refine c_cond_f (t:=false) (.tmp rfl (cVb hc302)) rfl ?_
 refine c_skip (n_block (n_then (c_region (st (v:=.int .i64 ((j:Nat):Int)) (x_move (.tmp rfl hρ264)) ?_))))
 refine st (v:=.int .i64 (((j + 1):Nat):Int)) (x_add (k:=.i64) (a:=((j:Nat):Int)) (b:=1) (.tmp rfl rfl) .const ((w64 (by omega) (by omega)).trans (by omega))) ?_
 refine st (v:=.int .i64 (((j + 1):Nat):Int)) (x_assign (.tmp rfl rfl)) ?_
 refine c_nil ?_
 refine n_then ⟨_,_,rfl,?_,H294,(j + 1),hρ259,hρ260,hρ261,hρ262,hρ263,rfl,((((((hg78.trans hle105).trans hle125).trans hle133).trans hle247).trans hle275).trans hle295),(by omega),(see_next (p:=fun j => seeT tr i v j = true) hse ((seeT_is hx9 hx93).trans (see_ok hc138 (of_decide_eq_true hc141) (.inr hc242) hc254 (by have h9:=hc267; simp only [Bool.and_eq_false_iff,decide_eq_false_iff_not] at h9; rintro ⟨h8,h7⟩; rcases h9 with h9 | h9; omega; rw [h7] at h9; cases h9) (by rintro ⟨h8,h7,h6⟩; omega)))),hs293.drop.drop,rfl⟩
 omega
 have hp301:¬ ((nextT e5 v.ID) = (nextT e89 v.ID)):=of_decide_eq_false hc301
 refine t_no (k:=15) rfl (yk 157 false rfl rfl hc301) rfl ?_
 refine t_no (k:=16) rfl (yk 157 false rfl rfl hc301) rfl ?_
 refine t_no (k:=17) rfl (yk 157 false rfl rfl hc301) rfl ?_
 refine t_no (k:=18) rfl (yk 157 false rfl rfl hc301) rfl ?_
 refine t_no (k:=19) rfl (yk 157 false rfl rfl hc301) rfl ?_
 refine t_st (k:=20) (v:=.bool false) rfl rfl (fun w hs => (x_pick_f (.tmp rfl (cVb hc301)) .const)) ?_
 refine t_nil ?_
 refine n_then (c_cond_f (t:=false) (.tmp rfl rfl) rfl ?_)
 refine c_skip (n_block (n_then (c_region (st (v:=.int .i64 ((j:Nat):Int)) (x_move (.tmp rfl hρ264)) ?_))))
 refine st (v:=.int .i64 (((j + 1):Nat):Int)) (x_add (k:=.i64) (a:=((j:Nat):Int)) (b:=1) (.tmp rfl rfl) .const ((w64 (by omega) (by omega)).trans (by omega))) ?_
 refine st (v:=.int .i64 (((j + 1):Nat):Int)) (x_assign (.tmp rfl rfl)) ?_
 refine c_nil ?_
 refine n_then ⟨_,_,rfl,?_,H294,(j + 1),hρ259,hρ260,hρ261,hρ262,hρ263,rfl,((((((hg78.trans hle105).trans hle125).trans hle133).trans hle247).trans hle275).trans hle295),(by omega),(see_next (p:=fun j => seeT tr i v j = true) hse ((seeT_is hx9 hx93).trans (see_ok hc138 (of_decide_eq_true hc141) (.inr hc242) hc254 (by have h9:=hc267; simp only [Bool.and_eq_false_iff,decide_eq_false_iff_not] at h9; rintro ⟨h8,h7⟩; rcases h9 with h9 | h9; omega; rw [h7] at h9; cases h9) (by rintro ⟨h8,h7,h6⟩; exact absurd h7 (of_decide_eq_false hc301))))),hs293.drop.drop,rfl⟩
 omega
 have hp290:¬ ((0:Int) < ((((nextT e5 v.ID).N):Nat):Int)):=of_decide_eq_false hc290
 refine t_no (k:=4) rfl (yk 146 false rfl rfl hc290) rfl ?_
 refine t_no (k:=5) rfl (yk 146 false rfl rfl hc290) rfl ?_
 refine t_no (k:=6) rfl (yk 146 false rfl rfl hc290) rfl ?_
 refine t_no (k:=7) rfl (yk 146 false rfl rfl hc290) rfl ?_
 refine t_no (k:=8) rfl (yk 146 false rfl rfl hc290) rfl ?_
 refine t_no (k:=9) rfl (yk 146 false rfl rfl hc290) rfl ?_
 refine t_no (k:=10) rfl (yk 146 false rfl rfl hc290) rfl ?_
 refine t_eff (k:=11) rfl ?_
 refine g_no (yk 146 false rfl rfl hc290) rfl ?_
 refine t_on (S':=fun u => St H274 u (obj g281 44 [.int .u64 ((((nextT e5 v.ID).N):Nat):Int),.int .i64 ((nextT e5 v.ID).P)]::obj g112 47 [.int .u64 ((((((hasT e89 v.ID).getD view0).ID).N):Nat):Int),.int .i64 ((((hasT e89 v.ID).getD view0).ID).P),.int .u16 (((((hasT e89 v.ID).getD view0).Set):Nat):Int)]::obj g17 47 [.int .u64 ((v.ID.N:Nat):Int),.int .i64 v.ID.P,.int .u16 ((v.Set:Nat):Int)]::L)) (fun u hu => hu) hs289 ?_
 refine t_no (k:=12) rfl (yk 146 false rfl rfl hc290) rfl ?_
 refine t_st (k:=13) (v:=.bool false) rfl rfl (fun w hs => (x_pick_f (.tmp rfl (cVb hc290)) .const)) ?_
 refine t_st (k:=14) (v:=.bool false) rfl rfl (fun w hs => (x_move (.tmp rfl rfl))) ?_
 refine t_no (k:=15) rfl (yl (dj:=157) (b:=false) rfl rfl rfl) rfl ?_
 refine t_no (k:=16) rfl (yl (dj:=157) (b:=false) rfl rfl rfl) rfl ?_
 refine t_no (k:=17) rfl (yl (dj:=157) (b:=false) rfl rfl rfl) rfl ?_
 refine t_no (k:=18) rfl (yl (dj:=157) (b:=false) rfl rfl rfl) rfl ?_
 refine t_no (k:=19) rfl (yl (dj:=157) (b:=false) rfl rfl rfl) rfl ?_
 refine t_st (k:=20) (v:=.bool false) rfl rfl (fun w hs => (x_pick_f (.tmp rfl rfl) .const)) ?_
 refine t_nil ?_
 refine n_then (c_cond_f (t:=false) (.tmp rfl rfl) rfl ?_)
 refine c_skip (n_block (n_then (c_region (st (v:=.int .i64 ((j:Nat):Int)) (x_move (.tmp rfl hρ264)) ?_))))
 refine st (v:=.int .i64 (((j + 1):Nat):Int)) (x_add (k:=.i64) (a:=((j:Nat):Int)) (b:=1) (.tmp rfl rfl) .const ((w64 (by omega) (by omega)).trans (by omega))) ?_
 refine st (v:=.int .i64 (((j + 1):Nat):Int)) (x_assign (.tmp rfl rfl)) ?_
 refine c_nil ?_
 refine n_then ⟨_,_,rfl,?_,H274,(j + 1),hρ259,hρ260,hρ261,hρ262,hρ263,rfl,(((((hg78.trans hle105).trans hle125).trans hle133).trans hle247).trans hle275),(by omega),(see_next (p:=fun j => seeT tr i v j = true) hse ((seeT_is hx9 hx93).trans (see_ok hc138 (of_decide_eq_true hc141) (.inr hc242) hc254 (by have h9:=hc267; simp only [Bool.and_eq_false_iff,decide_eq_false_iff_not] at h9; rintro ⟨h8,h7⟩; rcases h9 with h9 | h9; omega; rw [h7] at h9; cases h9) (by rintro ⟨h8,h7,h6⟩; omega)))),hs289.drop.drop,rfl⟩
 omega
 refine u_eff (k:=7) rfl ?_
 refine st_m (al44 (cs:=[.int .u64 0,.int .i64 0]) hs270 rfl) ?_
 rintro _ w305 ⟨g304,rfl,hs307⟩
 refine u_on (S':=fun u => St H246 u (obj g304 44 [.int .u64 0,.int .i64 0]::obj g112 47 [.int .u64 ((((((hasT e89 v.ID).getD view0).ID).N):Nat):Int),.int .i64 ((((hasT e89 v.ID).getD view0).ID).P),.int .u16 (((((hasT e89 v.ID).getD view0).Set):Nat):Int)]::obj g17 47 [.int .u64 ((v.ID.N:Nat):Int),.int .i64 v.ID.P,.int .u16 ((v.Set:Nat):Int)]::L)) (fun u hu => hu.drop) (fun u hu => hu.drop) hs307 ?_
 refine u_eff (k:=6) rfl ?_
 have hr308:kViewID.rep H246 v.ID [.int .u64 ((v.ID.N:Nat):Int),.int .i64 v.ID.P]:=⟨rfl,b1,⟨b2,b3⟩⟩
 refine st_c cb46 .func (evs2 (.tmp rfl rfl) (.tmp rfl rfl)) (next14_spec hs307 e5 (((((((hl16.mono hle27).mono hle38).mono hg78).mono hle105).mono hle125).mono hle133).mono hle247) v.ID hr308 ) ?_
 rintro e w309 ⟨H311,cs313,hle312,rfl,hr314,hs310⟩
 obtain ⟨rfl,b315,⟨b316,b317⟩⟩:=hr314
 refine ⟨_,rfl,?_⟩
 refine u_new (S':=fun u => St H311 u (obj g304 44 [.int .u64 0,.int .i64 0]::obj g112 47 [.int .u64 ((((((hasT e89 v.ID).getD view0).ID).N):Nat):Int),.int .i64 ((((hasT e89 v.ID).getD view0).ID).P),.int .u16 (((((hasT e89 v.ID).getD view0).Set):Nat):Int)]::obj g17 47 [.int .u64 ((v.ID.N:Nat):Int),.int .i64 v.ID.P,.int .u16 ((v.Set:Nat):Int)]::L)) rfl (fun u hu => hu.drop.weaken hle312) hs310 ?_
 refine u_eff (k:=8) rfl ?_
 refine st_m0 (sto44 (cs':=[.int .u64 ((((nextT e5 v.ID).N):Nat):Int),.int .i64 ((nextT e5 v.ID).P)]) (i:=0) hs310 (v:=.agg #[.int .u64 ((((nextT e5 v.ID).N):Nat):Int),.int .i64 ((nextT e5 v.ID).P)]) (.tmp rfl rfl) (.tmp rfl rfl) rfl (Nat.le_of_ble_eq_true rfl) (oneA rfl) rfl) ?_
 rintro w318 hs320
 refine u_new (S':=fun u => St H311 u (obj g304 44 [.int .u64 ((((nextT e5 v.ID).N):Nat):Int),.int .i64 ((nextT e5 v.ID).P)]::obj g112 47 [.int .u64 ((((((hasT e89 v.ID).getD view0).ID).N):Nat):Int),.int .i64 ((((hasT e89 v.ID).getD view0).ID).P),.int .u16 (((((hasT e89 v.ID).getD view0).Set):Nat):Int)]::obj g17 47 [.int .u64 ((v.ID.N:Nat):Int),.int .i64 v.ID.P,.int .u16 ((v.Set:Nat):Int)]::L)) rfl (fun u hu => hu.drop.weaken hle312) hs320 ?_
 refine u_nil ?_
 refine n_then (c_seq (t_region (L:=obj g304 44 [.int .u64 ((((nextT e5 v.ID).N):Nat):Int),.int .i64 ((nextT e5 v.ID).P)]::obj g112 47 [.int .u64 ((((((hasT e89 v.ID).getD view0).ID).N):Nat):Int),.int .i64 ((((hasT e89 v.ID).getD view0).ID).P),.int .u16 (((((hasT e89 v.ID).getD view0).Set):Nat):Int)]::obj g17 47 [.int .u64 ((v.ID.N:Nat):Int),.int .i64 v.ID.P,.int .u16 ((v.Set:Nat):Int)]::L) (L':=obj g304 44 [.int .u64 ((((nextT e5 v.ID).N):Nat):Int),.int .i64 ((nextT e5 v.ID).P)]::obj g112 47 [.int .u64 ((((((hasT e89 v.ID).getD view0).ID).N):Nat):Int),.int .i64 ((((hasT e89 v.ID).getD view0).ID).P),.int .u16 (((((hasT e89 v.ID).getD view0).Set):Nat):Int)]::obj g17 47 [.int .u64 ((v.ID.N:Nat):Int),.int .i64 v.ID.P,.int .u16 ((v.Set:Nat):Int)]::L) (Z:=[]) (F:=[]) (pl:=(.q 0 (.q 1 (.q 2 (.q 3 (.q 4 (.q 5 (.q 6 (.q 7 (.q 8 (.q 9 (.q 10 (.e 11 (.q 12 (.q 13 (.q 14 (.q 15 (.q 16 (.q 17 (.q 18 (.q 19 (.q 20 .done)))))))))))))))))))))) mixed hs320 (fun u hu => hu) (by kernel_rfl) ?_))
 intro w321 hs322
 refine t_st (k:=0) (v:=.pointer (some ⟨g304,0 + 0,none⟩)) rfl rfl (fun w hs => (fa44_0 (.tmp rfl rfl))) ?_
 refine t_st (k:=1) (v:=.int .u64 ((((nextT e5 v.ID).N):Nat):Int)) rfl rfl (fun w hs => (ld42 (.tmp rfl rfl) (hs.cell 0 rfl (0 + 0) rfl))) ?_
 refine t_st (k:=2) (v:=.bool (decide ((0:Int) < ((((nextT e5 v.ID).N):Nat):Int)))) rfl rfl (fun w hs => (x_gtr (k:=.u64) (a:=((((nextT e5 v.ID).N):Nat):Int)) (b:=0) (.tmp rfl rfl) .const)) ?_
 refine t_st (k:=3) (v:=.bool (decide ((0:Int) < ((((nextT e5 v.ID).N):Nat):Int)))) rfl rfl (fun w hs => (x_move (.tmp rfl rfl))) ?_
 rcases Bool.eq_false_or_eq_true (decide ((0:Int) < ((((nextT e5 v.ID).N):Nat):Int))) with hc323 | hc323
 have hp323:(0:Int) < ((((nextT e5 v.ID).N):Nat):Int):=of_decide_eq_true hc323
 refine t_yes (k:=4) (v:=.agg #[.int .u64 ((((nextT e5 v.ID).N):Nat):Int),.int .i64 ((nextT e5 v.ID).P)]) rfl rfl (yk 146 true rfl rfl hc323) (fun w hs => (ld44 (cs:=[.int .u64 ((((nextT e5 v.ID).N):Nat):Int),.int .i64 ((nextT e5 v.ID).P)]) (.tmp rfl rfl) (hs.at_ 0 rfl (0) rfl) rfl)) ?_
 refine t_yes (k:=5) (v:=.slice A_tr n_tr c_tr) rfl rfl (yk 146 true rfl rfl hc323) (fun w hs => (x_move (.tmp rfl hρ259))) ?_
 refine t_yes (k:=6) (v:=.int .i64 ((j:Nat):Int)) rfl rfl (yk 146 true rfl rfl hc323) (fun w hs => (x_move (.tmp rfl hρ264))) ?_
 refine t_yes (k:=7) (v:=.pointer (some ⟨b90,(o91 + j * 1),none⟩)) rfl rfl (yk 146 true rfl rfl hc323) (fun w hs => (ixo36 (.tmp rfl rfl) hA94 (i:=((j:Nat):Int)) (.tmp rfl rfl) (by omega) (by omega) (by omega))) ?_
 refine t_yes (k:=8) (v:=.slice A97 n98 c99) rfl rfl (yk 146 true rfl rfl hc323) (fun w hs => (ld41 (.tmp rfl rfl) ((hat96x (((((hs.weaken hle312).weaken hle247).weaken hle133).weaken hle125).weaken hle105)).cell 0 rfl))) ?_
 refine t_yes (k:=9) (v:=.pointer (some ⟨g17,0 + 0,none⟩)) rfl rfl (yk 146 true rfl rfl hc323) (fun w hs => (fa47_0 (.tmp rfl hρ261))) ?_
 refine t_yes (k:=10) (v:=.agg #[.int .u64 ((v.ID.N:Nat):Int),.int .i64 v.ID.P]) rfl rfl (yk 146 true rfl rfl hc323) (fun w hs => (ld44 (cs:=[.int .u64 ((v.ID.N:Nat):Int),.int .i64 v.ID.P]) (.tmp rfl rfl) (hs.at_ 2 rfl (0 + 0) rfl) rfl)) ?_
 refine t_eff (k:=11) rfl ?_
 refine g_yes (yk 146 true rfl rfl hc323) ?_
 have hr324:kViewID.rep H311 v.ID [.int .u64 ((v.ID.N:Nat):Int),.int .i64 v.ID.P]:=⟨rfl,b1,⟨b2,b3⟩⟩
 refine st_c cb46 .func (evs2 (.tmp rfl rfl) (.tmp rfl rfl)) (next14_spec hs322 e89 (((((hl100.mono hle105).mono hle125).mono hle133).mono hle247).mono hle312) v.ID hr324 ) ?_
 rintro e w325 ⟨H327,cs329,hle328,rfl,hr330,hs326⟩
 obtain ⟨rfl,b331,⟨b332,b333⟩⟩:=hr330
 refine ⟨_,rfl,?_⟩
 refine t_on (S':=fun u => St H327 u (obj g304 44 [.int .u64 ((((nextT e5 v.ID).N):Nat):Int),.int .i64 ((nextT e5 v.ID).P)]::obj g112 47 [.int .u64 ((((((hasT e89 v.ID).getD view0).ID).N):Nat):Int),.int .i64 ((((hasT e89 v.ID).getD view0).ID).P),.int .u16 (((((hasT e89 v.ID).getD view0).Set):Nat):Int)]::obj g17 47 [.int .u64 ((v.ID.N:Nat):Int),.int .i64 v.ID.P,.int .u16 ((v.Set:Nat):Int)]::L)) (fun u hu => hu.weaken hle328) hs326 ?_
 refine t_yes (k:=12) (v:=.bool ((((((nextT e5 v.ID).N):Nat):Int) == ((((nextT e89 v.ID).N):Nat):Int)) && ((((nextT e5 v.ID).P) == ((nextT e89 v.ID).P)) && true))) rfl rfl (yk 146 true rfl rfl hc323) (fun w hs => (x_eqlA eqg44 (.tmp rfl rfl) (.tmp rfl rfl) (fun d => eqs44 (d + 98) _ ((((nextT e5 v.ID).N):Nat):Int) ((((nextT e89 v.ID).N):Nat):Int) ((nextT e5 v.ID).P) ((nextT e89 v.ID).P)))) ?_
 refine t_st (k:=13) (v:=.bool (decide ((nextT e5 v.ID) = (nextT e89 v.ID)))) rfl rfl (fun w hs => (x_pick_t (.tmp rfl (cVb hc323)) (.tmp rfl (cVb (GViewID.beq_dec (nextT e5 v.ID) (nextT e89 v.ID)))))) ?_
 refine t_st (k:=14) (v:=.bool (decide ((nextT e5 v.ID) = (nextT e89 v.ID)))) rfl rfl (fun w hs => (x_move (.tmp rfl rfl))) ?_
 rcases Bool.eq_false_or_eq_true (decide ((nextT e5 v.ID) = (nextT e89 v.ID))) with hc334 | hc334
 have hp334:(nextT e5 v.ID) = (nextT e89 v.ID):=of_decide_eq_true hc334
 refine t_yes (k:=15) (v:=.slice A28 n29 c30) rfl rfl (yk 157 true rfl rfl hc334) (fun w hs => (x_move (.tmp rfl hρ262))) ?_
 refine t_yes (k:=16) (v:=.int .i64 ((n29:Nat):Int)) rfl rfl (yk 157 true rfl rfl hc334) (fun w hs => (x_len (n:=n29) Tryd.underlying25 (.tmp rfl rfl))) ?_
 refine t_yes (k:=17) (v:=.slice A126 n127 c128) rfl rfl (yk 157 true rfl rfl hc334) (fun w hs => (x_move (.tmp rfl hρ265))) ?_
 refine t_yes (k:=18) (v:=.int .i64 ((n127:Nat):Int)) rfl rfl (yk 157 true rfl rfl hc334) (fun w hs => (x_len (n:=n127) Tryd.underlying25 (.tmp rfl rfl))) ?_
 refine t_yes (k:=19) (v:=.bool (decide ((((n29:Nat):Int):Int) ≠ ((n127:Nat):Int)))) rfl rfl (yk 157 true rfl rfl hc334) (fun w hs => (x_neq (k:=.i64) (a:=((n29:Nat):Int)) (b:=((n127:Nat):Int)) (.tmp rfl rfl) (.tmp rfl rfl))) ?_
 refine t_st (k:=20) (v:=.bool (decide ((((n29:Nat):Int):Int) ≠ ((n127:Nat):Int)))) rfl rfl (fun w hs => (x_pick_t (.tmp rfl (cVb hc334)) (.tmp rfl rfl))) ?_
 refine t_nil ?_
 refine n_then ?_
 rcases Bool.eq_false_or_eq_true (decide ((((n29:Nat):Int):Int) ≠ ((n127:Nat):Int))) with hc335 | hc335
 have hp335:(((n29:Nat):Int):Int) ≠ ((n127:Nat):Int):=of_decide_eq_true hc335
 refine c_cond_t (t:=true) (.tmp rfl (cVb hc335)) rfl ?_
 refine c_seq (c_region (st (v:=.bool false) (x_assign .const) ?_))
 refine c_nil (n_then (c_ret (r_block (r_then (r_then (r_block (r_then (leave_ret (res_one (v:=.bool false) rfl (.mk rfl rfl)) ?_))))))))
 have hans336:inviewT tr i v = false:=inview_no2 (j:=j) (by omega) ((seeT_is hx9 hx93).trans (see_bad5 hc138 (by omega) (of_decide_eq_true hc334) (by omega)))
 rw [hans336]
 exact ⟨H327,((((((((hle27.trans hle38).trans hg78).trans hle105).trans hle125).trans hle133).trans hle247).trans hle312).trans hle328),rfl,hs326.drop.drop.drop⟩
 have hp335:¬ ((((n29:Nat):Int):Int) ≠ ((n127:Nat):Int)):=of_decide_eq_false hc335
 refine c_cond_f (t:=false) (.tmp rfl (cVb hc335)) rfl ?_
 refine c_skip (n_block (n_then (c_region (st (v:=.int .i64 ((j:Nat):Int)) (x_move (.tmp rfl hρ264)) ?_))))
 refine st (v:=.int .i64 (((j + 1):Nat):Int)) (x_add (k:=.i64) (a:=((j:Nat):Int)) (b:=1) (.tmp rfl rfl) .const ((w64 (by omega) (by omega)).trans (by omega))) ?_
 refine st (v:=.int .i64 (((j + 1):Nat):Int)) (x_assign (.tmp rfl rfl)) ?_
 refine c_nil ?_
 refine n_then ⟨_,_,rfl,?_,H327,(j + 1),hρ259,hρ260,hρ261,hρ262,hρ263,rfl,((((((hg78.trans hle105).trans hle125).trans hle133).trans hle247).trans hle312).trans hle328),(by omega),(see_next (p:=fun j => seeT tr i v j = true) hse ((seeT_is hx9 hx93).trans (see_ok hc138 (of_decide_eq_true hc141) (.inr hc242) hc254 (by have h9:=hc267; simp only [Bool.and_eq_false_iff,decide_eq_false_iff_not] at h9; rintro ⟨h8,h7⟩; rcases h9 with h9 | h9; omega; rw [h7] at h9; cases h9) (by rintro ⟨h8,h7,h6⟩; omega)))),hs326.drop.drop,rfl⟩
 omega
 have hp334:¬ ((nextT e5 v.ID) = (nextT e89 v.ID)):=of_decide_eq_false hc334
 refine t_no (k:=15) rfl (yk 157 false rfl rfl hc334) rfl ?_
 refine t_no (k:=16) rfl (yk 157 false rfl rfl hc334) rfl ?_
 refine t_no (k:=17) rfl (yk 157 false rfl rfl hc334) rfl ?_
 refine t_no (k:=18) rfl (yk 157 false rfl rfl hc334) rfl ?_
 refine t_no (k:=19) rfl (yk 157 false rfl rfl hc334) rfl ?_
 refine t_st (k:=20) (v:=.bool false) rfl rfl (fun w hs => (x_pick_f (.tmp rfl (cVb hc334)) .const)) ?_
 refine t_nil ?_
 refine n_then (c_cond_f (t:=false) (.tmp rfl rfl) rfl ?_)
 refine c_skip (n_block (n_then (c_region (st (v:=.int .i64 ((j:Nat):Int)) (x_move (.tmp rfl hρ264)) ?_))))
 refine st (v:=.int .i64 (((j + 1):Nat):Int)) (x_add (k:=.i64) (a:=((j:Nat):Int)) (b:=1) (.tmp rfl rfl) .const ((w64 (by omega) (by omega)).trans (by omega))) ?_
 refine st (v:=.int .i64 (((j + 1):Nat):Int)) (x_assign (.tmp rfl rfl)) ?_
 refine c_nil ?_
 refine n_then ⟨_,_,rfl,?_,H327,(j + 1),hρ259,hρ260,hρ261,hρ262,hρ263,rfl,((((((hg78.trans hle105).trans hle125).trans hle133).trans hle247).trans hle312).trans hle328),(by omega),(see_next (p:=fun j => seeT tr i v j = true) hse ((seeT_is hx9 hx93).trans (see_ok hc138 (of_decide_eq_true hc141) (.inr hc242) hc254 (by have h9:=hc267; simp only [Bool.and_eq_false_iff,decide_eq_false_iff_not] at h9; rintro ⟨h8,h7⟩; rcases h9 with h9 | h9; omega; rw [h7] at h9; cases h9) (by rintro ⟨h8,h7,h6⟩; exact absurd h7 (of_decide_eq_false hc334))))),hs326.drop.drop,rfl⟩
 omega
 have hp323:¬ ((0:Int) < ((((nextT e5 v.ID).N):Nat):Int)):=of_decide_eq_false hc323
 refine t_no (k:=4) rfl (yk 146 false rfl rfl hc323) rfl ?_
 refine t_no (k:=5) rfl (yk 146 false rfl rfl hc323) rfl ?_
 refine t_no (k:=6) rfl (yk 146 false rfl rfl hc323) rfl ?_
 refine t_no (k:=7) rfl (yk 146 false rfl rfl hc323) rfl ?_
 refine t_no (k:=8) rfl (yk 146 false rfl rfl hc323) rfl ?_
 refine t_no (k:=9) rfl (yk 146 false rfl rfl hc323) rfl ?_
 refine t_no (k:=10) rfl (yk 146 false rfl rfl hc323) rfl ?_
 refine t_eff (k:=11) rfl ?_
 refine g_no (yk 146 false rfl rfl hc323) rfl ?_
 refine t_on (S':=fun u => St H311 u (obj g304 44 [.int .u64 ((((nextT e5 v.ID).N):Nat):Int),.int .i64 ((nextT e5 v.ID).P)]::obj g112 47 [.int .u64 ((((((hasT e89 v.ID).getD view0).ID).N):Nat):Int),.int .i64 ((((hasT e89 v.ID).getD view0).ID).P),.int .u16 (((((hasT e89 v.ID).getD view0).Set):Nat):Int)]::obj g17 47 [.int .u64 ((v.ID.N:Nat):Int),.int .i64 v.ID.P,.int .u16 ((v.Set:Nat):Int)]::L)) (fun u hu => hu) hs322 ?_
 refine t_no (k:=12) rfl (yk 146 false rfl rfl hc323) rfl ?_
 refine t_st (k:=13) (v:=.bool false) rfl rfl (fun w hs => (x_pick_f (.tmp rfl (cVb hc323)) .const)) ?_
 refine t_st (k:=14) (v:=.bool false) rfl rfl (fun w hs => (x_move (.tmp rfl rfl))) ?_
 refine t_no (k:=15) rfl (yl (dj:=157) (b:=false) rfl rfl rfl) rfl ?_
 refine t_no (k:=16) rfl (yl (dj:=157) (b:=false) rfl rfl rfl) rfl ?_
 refine t_no (k:=17) rfl (yl (dj:=157) (b:=false) rfl rfl rfl) rfl ?_
 refine t_no (k:=18) rfl (yl (dj:=157) (b:=false) rfl rfl rfl) rfl ?_
 refine t_no (k:=19) rfl (yl (dj:=157) (b:=false) rfl rfl rfl) rfl ?_
 refine t_st (k:=20) (v:=.bool false) rfl rfl (fun w hs => (x_pick_f (.tmp rfl rfl) .const)) ?_
 refine t_nil ?_
 refine n_then (c_cond_f (t:=false) (.tmp rfl rfl) rfl ?_)
 refine c_skip (n_block (n_then (c_region (st (v:=.int .i64 ((j:Nat):Int)) (x_move (.tmp rfl hρ264)) ?_))))
 refine st (v:=.int .i64 (((j + 1):Nat):Int)) (x_add (k:=.i64) (a:=((j:Nat):Int)) (b:=1) (.tmp rfl rfl) .const ((w64 (by omega) (by omega)).trans (by omega))) ?_
 refine st (v:=.int .i64 (((j + 1):Nat):Int)) (x_assign (.tmp rfl rfl)) ?_
 refine c_nil ?_
 refine n_then ⟨_,_,rfl,?_,H311,(j + 1),hρ259,hρ260,hρ261,hρ262,hρ263,rfl,(((((hg78.trans hle105).trans hle125).trans hle133).trans hle247).trans hle312),(by omega),(see_next (p:=fun j => seeT tr i v j = true) hse ((seeT_is hx9 hx93).trans (see_ok hc138 (of_decide_eq_true hc141) (.inr hc242) hc254 (by have h9:=hc267; simp only [Bool.and_eq_false_iff,decide_eq_false_iff_not] at h9; rintro ⟨h8,h7⟩; rcases h9 with h9 | h9; omega; rw [h7] at h9; cases h9) (by rintro ⟨h8,h7,h6⟩; omega)))),hs322.drop.drop,rfl⟩
 omega
 refine c_cond_t (t:=true) (.tmp rfl (cVb (by rw [hc254]; rfl))) rfl ?_
 refine c_seq (c_region (st (v:=.bool false) (x_assign .const) ?_))
 refine c_nil (n_then (c_ret (r_then (r_block (r_then (r_then (r_block (r_then (leave_ret (res_one (v:=.bool false) rfl (.mk rfl rfl)) ?_)))))))))
 have hans337:inviewT tr i v = false:=inview_no2 (j:=j) (by omega) ((seeT_is hx9 hx93).trans (see_bad3 hc138 hc254))
 rw [hans337]
 exact ⟨H246,((((((hle27.trans hle38).trans hg78).trans hle105).trans hle125).trans hle133).trans hle247),rfl,hs253.drop.drop⟩
 refine t_no (k:=16) rfl (yl (dj:=113) (b:=true) rfl rfl (cVb (by rw [hc242]; rfl))) rfl ?_
 refine t_no (k:=17) rfl (yl (dj:=113) (b:=true) rfl rfl (cVb (by rw [hc242]; rfl))) rfl ?_
 refine t_no (k:=18) rfl (yl (dj:=113) (b:=true) rfl rfl (cVb (by rw [hc242]; rfl))) rfl ?_
 refine t_no (k:=19) rfl (yl (dj:=113) (b:=true) rfl rfl (cVb (by rw [hc242]; rfl))) rfl ?_
 refine t_no (k:=20) rfl (yl (dj:=113) (b:=true) rfl rfl (cVb (by rw [hc242]; rfl))) rfl ?_
 refine t_no (k:=21) rfl (yl (dj:=113) (b:=true) rfl rfl (cVb (by rw [hc242]; rfl))) rfl ?_
 refine t_no (k:=22) rfl (yl (dj:=113) (b:=true) rfl rfl (cVb (by rw [hc242]; rfl))) rfl ?_
 refine t_no (k:=23) rfl (yl (dj:=113) (b:=true) rfl rfl (cVb (by rw [hc242]; rfl))) rfl ?_
 refine t_eff (k:=24) rfl ?_
 refine g_no (yl (dj:=113) (b:=true) rfl rfl (cVb (by rw [hc242]; rfl))) rfl ?_
 refine t_on (S':=fun u => St H132 u (obj g112 47 [.int .u64 ((((((hasT e89 v.ID).getD view0).ID).N):Nat):Int),.int .i64 ((((hasT e89 v.ID).getD view0).ID).P),.int .u16 (((((hasT e89 v.ID).getD view0).Set):Nat):Int)]::obj g17 47 [.int .u64 ((v.ID.N:Nat):Int),.int .i64 v.ID.P,.int .u16 ((v.Set:Nat):Int)]::L)) (fun u hu => hu) hs241 ?_
 refine t_eff (k:=25) rfl ?_
 refine g_no (yl (dj:=113) (b:=true) rfl rfl (cVb (by rw [hc242]; rfl))) rfl ?_
 refine t_on (S':=fun u => St H132 u (obj g112 47 [.int .u64 ((((((hasT e89 v.ID).getD view0).ID).N):Nat):Int),.int .i64 ((((hasT e89 v.ID).getD view0).ID).P),.int .u16 (((((hasT e89 v.ID).getD view0).Set):Nat):Int)]::obj g17 47 [.int .u64 ((v.ID.N:Nat):Int),.int .i64 v.ID.P,.int .u16 ((v.Set:Nat):Int)]::L)) (fun u hu => hu) hs241 ?_
 refine t_no (k:=26) rfl (yl (dj:=113) (b:=true) rfl rfl (cVb (by rw [hc242]; rfl))) rfl ?_
 refine t_st (k:=27) (v:=.bool true) rfl rfl (fun w hs => (x_pick_t (.tmp rfl (cVb (by rw [hc242]; rfl))) .const)) ?_
 refine t_nil ?_
 refine n_then (c_cond_t (t:=true) (.tmp rfl rfl) rfl ?_)
 refine c_seq (c_region (st (v:=.bool false) (x_assign .const) ?_))
 refine c_nil (n_then (c_ret (r_then (r_block (r_then (r_then (r_block (r_then (leave_ret (res_one (v:=.bool false) rfl (.mk rfl rfl)) ?_)))))))))
 have hans338:inviewT tr i v = false:=inview_no2 (j:=j) (by omega) ((seeT_is hx9 hx93).trans (see_bad2 hc138 hc144 hc242))
 rw [hans338]
 exact ⟨H132,(((((hle27.trans hle38).trans hg78).trans hle105).trans hle125).trans hle133),rfl,hs241.drop.drop⟩
 have hp141:¬ (((hasT e89 v.ID).getD view0) = v):=of_decide_eq_false hc141
 refine t_no (k:=4) rfl (yl (dj:=101) (b:=true) rfl rfl (cVb (by rw [hc141]; rfl))) rfl ?_
 refine t_no (k:=5) rfl (yl (dj:=101) (b:=true) rfl rfl (cVb (by rw [hc141]; rfl))) rfl ?_
 refine t_eff (k:=6) rfl ?_
 refine g_no (yl (dj:=101) (b:=true) rfl rfl (cVb (by rw [hc141]; rfl))) rfl ?_
 refine t_new (S':=fun u => St H132 u (obj g112 47 [.int .u64 ((((((hasT e89 v.ID).getD view0).ID).N):Nat):Int),.int .i64 ((((hasT e89 v.ID).getD view0).ID).P),.int .u16 (((((hasT e89 v.ID).getD view0).Set):Nat):Int)]::obj g17 47 [.int .u64 ((v.ID.N:Nat):Int),.int .i64 v.ID.P,.int .u16 ((v.Set:Nat):Int)]::L)) rfl hs140 ?_
 refine t_no (k:=7) rfl (yl (dj:=101) (b:=true) rfl rfl (cVb (by rw [hc141]; rfl))) rfl ?_
 refine t_no (k:=8) rfl (yl (dj:=101) (b:=true) rfl rfl (cVb (by rw [hc141]; rfl))) rfl ?_
 refine t_no0 (k:=9) rfl (yn (dj:=106) rfl rfl) ?_
 refine t_no0 (k:=10) rfl (yn (dj:=106) rfl rfl) ?_
 refine t_eff (k:=11) rfl ?_
 refine g_no0 (yn (dj:=106) rfl rfl) ?_
 refine t_new (S':=fun u => St H132 u (obj g112 47 [.int .u64 ((((((hasT e89 v.ID).getD view0).ID).N):Nat):Int),.int .i64 ((((hasT e89 v.ID).getD view0).ID).P),.int .u16 (((((hasT e89 v.ID).getD view0).Set):Nat):Int)]::obj g17 47 [.int .u64 ((v.ID.N:Nat):Int),.int .i64 v.ID.P,.int .u16 ((v.Set:Nat):Int)]::L)) rfl hs140 ?_
 refine t_no0 (k:=12) rfl (yn (dj:=106) rfl rfl) ?_
 refine t_no (k:=13) rfl (yl (dj:=101) (b:=true) rfl rfl (cVb (by rw [hc141]; rfl))) rfl ?_
 refine t_st (k:=14) (v:=.bool true) rfl rfl (fun w hs => (x_pick_t (.tmp rfl (cVb (by rw [hc141]; rfl))) .const)) ?_
 refine t_st (k:=15) (v:=.bool true) rfl rfl (fun w hs => (x_move (.tmp rfl rfl))) ?_
 refine t_no (k:=16) rfl (yl (dj:=113) (b:=true) rfl rfl rfl) rfl ?_
 refine t_no (k:=17) rfl (yl (dj:=113) (b:=true) rfl rfl rfl) rfl ?_
 refine t_no (k:=18) rfl (yl (dj:=113) (b:=true) rfl rfl rfl) rfl ?_
 refine t_no (k:=19) rfl (yl (dj:=113) (b:=true) rfl rfl rfl) rfl ?_
 refine t_no (k:=20) rfl (yl (dj:=113) (b:=true) rfl rfl rfl) rfl ?_
 refine t_no (k:=21) rfl (yl (dj:=113) (b:=true) rfl rfl rfl) rfl ?_
 refine t_no (k:=22) rfl (yl (dj:=113) (b:=true) rfl rfl rfl) rfl ?_
 refine t_no (k:=23) rfl (yl (dj:=113) (b:=true) rfl rfl rfl) rfl ?_
 refine t_eff (k:=24) rfl ?_
 refine g_no (yl (dj:=113) (b:=true) rfl rfl rfl) rfl ?_
 refine t_on (S':=fun u => St H132 u (obj g112 47 [.int .u64 ((((((hasT e89 v.ID).getD view0).ID).N):Nat):Int),.int .i64 ((((hasT e89 v.ID).getD view0).ID).P),.int .u16 (((((hasT e89 v.ID).getD view0).Set):Nat):Int)]::obj g17 47 [.int .u64 ((v.ID.N:Nat):Int),.int .i64 v.ID.P,.int .u16 ((v.Set:Nat):Int)]::L)) (fun u hu => hu) hs140 ?_
 refine t_eff (k:=25) rfl ?_
 refine g_no (yl (dj:=113) (b:=true) rfl rfl rfl) rfl ?_
 refine t_on (S':=fun u => St H132 u (obj g112 47 [.int .u64 ((((((hasT e89 v.ID).getD view0).ID).N):Nat):Int),.int .i64 ((((hasT e89 v.ID).getD view0).ID).P),.int .u16 (((((hasT e89 v.ID).getD view0).Set):Nat):Int)]::obj g17 47 [.int .u64 ((v.ID.N:Nat):Int),.int .i64 v.ID.P,.int .u16 ((v.Set:Nat):Int)]::L)) (fun u hu => hu) hs140 ?_
 refine t_no (k:=26) rfl (yl (dj:=113) (b:=true) rfl rfl rfl) rfl ?_
 refine t_st (k:=27) (v:=.bool true) rfl rfl (fun w hs => (x_pick_t (.tmp rfl rfl) .const)) ?_
 refine t_nil ?_
 refine n_then (c_cond_t (t:=true) (.tmp rfl rfl) rfl ?_)
 refine c_seq (c_region (st (v:=.bool false) (x_assign .const) ?_))
 refine c_nil (n_then (c_ret (r_then (r_block (r_then (r_then (r_block (r_then (leave_ret (res_one (v:=.bool false) rfl (.mk rfl rfl)) ?_)))))))))
 have hans339:inviewT tr i v = false:=inview_no2 (j:=j) (by omega) ((seeT_is hx9 hx93).trans (see_bad1 hc138 (of_decide_eq_false hc141)))
 rw [hans339]
 exact ⟨H132,(((((hle27.trans hle38).trans hg78).trans hle105).trans hle125).trans hle133),rfl,hs140.drop.drop⟩
 refine c_cond_t (t:=true) (.tmp rfl (cVb (by rw [hc138]; rfl))) rfl ?_
 refine c_seq (c_seq (c_region (st (v:=.slice A134 n135 c136) (x_move (.tmp rfl rfl)) ?_)))
 refine st (v:=.int .i64 ((n135:Nat):Int)) (x_len (n:=n135) Tryd.underlying25 (.tmp rfl rfl)) ?_
 refine st (v:=.bool (decide ((0:Int) < ((n135:Nat):Int)))) (x_gtr (k:=.i64) (a:=((n135:Nat):Int)) (b:=0) (.tmp rfl rfl) .const) ?_
 refine st (v:=.bool (decide ((0:Int) < ((n135:Nat):Int)))) (x_move (.tmp rfl rfl)) ?_
 refine jw 9 (fun ρ w => ρ 97 = .bool ((decide ((0:Int) < ((n135:Nat):Int))) || ((decide ((0:Int) < ((n40:Nat):Int))) && (has v.Set ((j:Nat):Int))))∧ρ 0 = .slice A_tr n_tr c_tr∧ρ 1 = .int .i64 ((i:Nat):Int)∧ρ 5 = .pointer (some ⟨g17,0,none⟩)∧ρ 7 = .slice A28 n29 c30∧ρ 8 = .int .i64 ((n40:Nat):Int)∧ρ 10 = .int .i64 ((j:Nat):Int)∧St H132 w (obj g112 47 [.int .u64 ((((((hasT e89 v.ID).getD view0).ID).N):Nat):Int),.int .i64 ((((hasT e89 v.ID).getD view0).ID).P),.int .u16 (((((hasT e89 v.ID).getD view0).Set):Nat):Int)]::obj g17 47 [.int .u64 ((v.ID.N:Nat):Int),.int .i64 v.ID.P,.int .u16 ((v.Set:Nat):Int)]::L)) ?_ ?_
 rcases Bool.eq_false_or_eq_true (decide ((0:Int) < ((n135:Nat):Int))) with hc340 | hc340
 have hp340:(0:Int) < ((n135:Nat):Int):=of_decide_eq_true hc340
 refine g_no (yk 88 true rfl rfl hc340) rfl ?_
 refine g_no (yk 88 true rfl rfl hc340) rfl ?_
 refine g_no (yk 88 true rfl rfl hc340) rfl ?_
 refine g_no0 (yn (dj:=91) rfl rfl) ?_
 refine g_no0 (yn (dj:=91) rfl rfl) ?_
 refine g_no0 (yn (dj:=91) rfl rfl) ?_
 refine g_no0 (yn (dj:=91) rfl rfl) ?_
 refine g_no (yk 88 true rfl rfl hc340) rfl ?_
 refine st (v:=.bool true) (x_pick_t (.tmp rfl (cVb hc340)) .const) ?_
 exact jw_end ⟨(cVb (jor_t hc340)),hρ79,hρ80,hρ81,hρ82,hρ83,hρ84,hs131⟩
 have hp340:¬ ((0:Int) < ((n135:Nat):Int)):=of_decide_eq_false hc340
 refine g_yes (yk 88 false rfl rfl hc340) ?_
 refine st (v:=.int .i64 ((n40:Nat):Int)) (x_move (.tmp rfl hρ83)) ?_
 refine g_yes (yk 88 false rfl rfl hc340) ?_
 refine st (v:=.bool (decide ((0:Int) < ((n40:Nat):Int)))) (x_gtr (k:=.i64) (a:=((n40:Nat):Int)) (b:=0) (.tmp rfl rfl) .const) ?_
 refine g_yes (yk 88 false rfl rfl hc340) ?_
 refine st (v:=.bool (decide ((0:Int) < ((n40:Nat):Int)))) (x_move (.tmp rfl rfl)) ?_
 refine jw 5 (fun ρ w => ρ 96 = .bool ((decide ((0:Int) < ((n40:Nat):Int))) && (has v.Set ((j:Nat):Int)))∧ρ 0 = .slice A_tr n_tr c_tr∧ρ 1 = .int .i64 ((i:Nat):Int)∧ρ 5 = .pointer (some ⟨g17,0,none⟩)∧ρ 7 = .slice A28 n29 c30∧ρ 8 = .int .i64 ((n40:Nat):Int)∧ρ 10 = .int .i64 ((j:Nat):Int)∧ρ 88 = .bool false∧St H132 w (obj g112 47 [.int .u64 ((((((hasT e89 v.ID).getD view0).ID).N):Nat):Int),.int .i64 ((((hasT e89 v.ID).getD view0).ID).P),.int .u16 (((((hasT e89 v.ID).getD view0).Set):Nat):Int)]::obj g17 47 [.int .u64 ((v.ID.N:Nat):Int),.int .i64 v.ID.P,.int .u16 ((v.Set:Nat):Int)]::L)) ?_ ?_
 rcases Bool.eq_false_or_eq_true (decide ((0:Int) < ((n40:Nat):Int))) with hc341 | hc341
 have hp341:(0:Int) < ((n40:Nat):Int):=of_decide_eq_true hc341
 refine g_yes (yk 91 true rfl rfl hc341) ?_
 refine st (v:=.pointer (some ⟨g17,0 + 2,none⟩)) (fa47_1 (.tmp rfl hρ81)) ?_
 refine g_yes (yk 91 true rfl rfl hc341) ?_
 refine st (v:=.int .u16 ((v.Set:Nat):Int)) (ld45 (.tmp rfl rfl) (hs131.cell 1 rfl (0 + 2) rfl)) ?_
 refine g_yes (yk 91 true rfl rfl hc341) ?_
 refine st (v:=.int .i64 ((j:Nat):Int)) (x_move (.tmp rfl hρ84)) ?_
 refine g_yes (yk 91 true rfl rfl hc341) ?_
 refine st_c cb40 .func (evs2 (.tmp rfl rfl) (.tmp rfl rfl)) (rhas_spec hs131 v.Set ((j:Nat):Int) b4 (by omega)) ?_
 rintro e w342 ⟨rfl,hs343⟩
 refine ⟨_,rfl,?_⟩
 refine g_yes (yk 88 false rfl rfl hc340) ?_
 refine st (v:=.bool (has v.Set ((j:Nat):Int))) (x_pick_t (.tmp rfl (cVb hc341)) (.tmp rfl rfl)) ?_
 exact jw_end ⟨(cVb (jand_t hc341)),hρ79,hρ80,hρ81,hρ82,hρ83,hρ84,(cVb hc340),hs343⟩
 have hp341:¬ ((0:Int) < ((n40:Nat):Int)):=of_decide_eq_false hc341
 refine g_no (yk 91 false rfl rfl hc341) rfl ?_
 refine g_no (yk 91 false rfl rfl hc341) rfl ?_
 refine g_no (yk 91 false rfl rfl hc341) rfl ?_
 refine g_no (yk 91 false rfl rfl hc341) rfl ?_
 refine g_yes (yk 88 false rfl rfl hc340) ?_
 refine st (v:=.bool false) (x_pick_f (.tmp rfl (cVb hc341)) .const) ?_
 exact jw_end ⟨(cVb (jand_f hc341)),hρ79,hρ80,hρ81,hρ82,hρ83,hρ84,(cVb hc340),hs131⟩
 rintro ρ w ⟨hρ344,hρ345,hρ346,hρ347,hρ348,hρ349,hρ350,hρ351,hs352⟩
 refine st (v:=.bool ((decide ((0:Int) < ((n40:Nat):Int))) && (has v.Set ((j:Nat):Int)))) (x_pick_f (.tmp rfl hρ351) (.tmp rfl hρ344)) ?_
 exact jw_end ⟨(cVb (jor_f hc340)),hρ345,hρ346,hρ347,hρ348,hρ349,hρ350,hs352⟩
 rintro ρ w ⟨hρ353,hρ354,hρ355,hρ356,hρ357,hρ358,hρ359,hs360⟩
 refine c_nil (n_then ?_)
 rcases Bool.eq_false_or_eq_true ((decide ((0:Int) < ((n135:Nat):Int))) || ((decide ((0:Int) < ((n40:Nat):Int))) && (has v.Set ((j:Nat):Int)))) with hc361 | hc361
 have hp361:((0:Int) < ((n135:Nat):Int)) ∨ (((0:Int) < ((n40:Nat):Int))∧((has v.Set ((j:Nat):Int)) = true)):=((J_or decide_eq_true_iff (J_and decide_eq_true_iff Iff.rfl))).1 hc361
 refine c_cond_t (t:=true) (.tmp rfl (hρ353.trans (cVb hc361))) rfl ?_
 refine c_seq (c_region (st (v:=.bool false) (x_assign .const) ?_))
 refine c_nil (n_then (c_ret (r_then (r_then (r_block (r_then (r_then (r_block (r_then (leave_ret (res_one (v:=.bool false) rfl (.mk rfl rfl)) ?_))))))))))
 have hans362:inviewT tr i v = false:=inview_no2 (j:=j) (by omega) ((seeT_is hx9 hx93).trans (see_none_bad hc138 (by have h9:=hc361; simp only [Bool.or_eq_true,Bool.and_eq_true,decide_eq_true_eq] at h9; rcases h9 with h9 | h9; exact .inl (by omega); exact .inr ⟨by omega,h9.2⟩)))
 rw [hans362]
 exact ⟨H132,(((((hle27.trans hle38).trans hg78).trans hle105).trans hle125).trans hle133),rfl,hs360.drop.drop⟩
 have hp361:¬ (((0:Int) < ((n135:Nat):Int)) ∨ (((0:Int) < ((n40:Nat):Int))∧((has v.Set ((j:Nat):Int)) = true))):=J_no (J_or decide_eq_true_iff (J_and decide_eq_true_iff Iff.rfl)) hc361
 refine c_cond_f (t:=false) (.tmp rfl (hρ353.trans (cVb hc361))) rfl ?_
 refine c_skip (n_then (c_exit (x_then (x_here (n_then (c_region (st (v:=.int .i64 ((j:Nat):Int)) (x_move (.tmp rfl hρ359)) ?_)))))))
 refine st (v:=.int .i64 (((j + 1):Nat):Int)) (x_add (k:=.i64) (a:=((j:Nat):Int)) (b:=1) (.tmp rfl rfl) .const ((w64 (by omega) (by omega)).trans (by omega))) ?_
 refine st (v:=.int .i64 (((j + 1):Nat):Int)) (x_assign (.tmp rfl rfl)) ?_
 refine c_nil ?_
 refine n_then ⟨_,_,rfl,?_,H132,(j + 1),hρ354,hρ355,hρ356,hρ357,hρ358,rfl,(((hg78.trans hle105).trans hle125).trans hle133),(by omega),(see_next (p:=fun j => seeT tr i v j = true) hse ((seeT_is hx9 hx93).trans (see_none_ok hc138 (by have h9:=hc361; simp only [Bool.or_eq_false_iff,Bool.and_eq_false_iff,decide_eq_false_iff_not] at h9; rintro (h8 | h8); have:=h9.1; omega; rcases h9.2 with h7 | h7; omega; rw [h8.2] at h7; cases h7)))),hs360.drop,rfl⟩
 omega
 refine u_eff (k:=10) rfl ?_
 refine st_m (al47 (cs:=[.int .u64 0,.int .i64 0,.int .u16 0]) hs88 rfl) ?_
 rintro _ w364 ⟨g363,rfl,hs366⟩
 refine u_on (S':=fun u => St H77 u (obj g363 47 [.int .u64 0,.int .i64 0,.int .u16 0]::obj g17 47 [.int .u64 ((v.ID.N:Nat):Int),.int .i64 v.ID.P,.int .u16 ((v.Set:Nat):Int)]::L)) (fun u hu => hu.drop) (fun u hu => hu.drop) hs366 ?_
 refine u_eff (k:=6) rfl ?_
 have hr367:kViewID.rep H77 v.ID [.int .u64 ((v.ID.N:Nat):Int),.int .i64 v.ID.P]:=⟨rfl,b1,⟨b2,b3⟩⟩
 refine st_c cb44 .func (evs2 (.tmp rfl rfl) (.tmp rfl rfl)) (has14_spec hs366 e89 hl100 v.ID hr367 ) ?_
 rintro e w368 ⟨H370,cs372,hle371,rfl,hr373,hs369⟩
 obtain ⟨rfl,b374,⟨b375,b376⟩,b377⟩:=hr373
 refine ⟨_,rfl,?_⟩
 refine u_new (S':=fun u => St H370 u (obj g363 47 [.int .u64 0,.int .i64 0,.int .u16 0]::obj g17 47 [.int .u64 ((v.ID.N:Nat):Int),.int .i64 v.ID.P,.int .u16 ((v.Set:Nat):Int)]::L)) rfl (fun u hu => hu.drop.weaken hle371) hs369 ?_
 refine u_st (k:=7) (v:=.tuple #[.agg #[.int .u64 ((((((hasT e89 v.ID).getD view0).ID).N):Nat):Int),.int .i64 ((((hasT e89 v.ID).getD view0).ID).P),.int .u16 (((((hasT e89 v.ID).getD view0).Set):Nat):Int)],.bool ((hasT e89 v.ID).isSome)]) rfl rfl (fun w hs => (x_move (.tmp rfl rfl))) ?_
 refine u_st (k:=8) (v:=.agg #[.int .u64 ((((((hasT e89 v.ID).getD view0).ID).N):Nat):Int),.int .i64 ((((hasT e89 v.ID).getD view0).ID).P),.int .u16 (((((hasT e89 v.ID).getD view0).Set):Nat):Int)]) rfl rfl (fun w hs => (x_extract (.tmp rfl rfl) (i:=0) rfl)) ?_
 refine u_fr (k:=9) (v:=.bool ((hasT e89 v.ID).isSome)) rfl rfl (fun w hs => (x_extract (.tmp rfl rfl) (i:=1) rfl)) ?_
 refine u_eff (k:=11) rfl ?_
 refine st_m0 (sto47 (cs':=[.int .u64 ((((((hasT e89 v.ID).getD view0).ID).N):Nat):Int),.int .i64 ((((hasT e89 v.ID).getD view0).ID).P),.int .u16 (((((hasT e89 v.ID).getD view0).Set):Nat):Int)]) (i:=0) hs369 (v:=.agg #[.int .u64 ((((((hasT e89 v.ID).getD view0).ID).N):Nat):Int),.int .i64 ((((hasT e89 v.ID).getD view0).ID).P),.int .u16 (((((hasT e89 v.ID).getD view0).Set):Nat):Int)]) (.tmp rfl rfl) (.tmp rfl rfl) rfl (Nat.le_of_ble_eq_true rfl) (oneA rfl) rfl) ?_
 rintro w378 hs380
 refine u_new (S':=fun u => St H370 u (obj g363 47 [.int .u64 ((((((hasT e89 v.ID).getD view0).ID).N):Nat):Int),.int .i64 ((((hasT e89 v.ID).getD view0).ID).P),.int .u16 (((((hasT e89 v.ID).getD view0).Set):Nat):Int)]::obj g17 47 [.int .u64 ((v.ID.N:Nat):Int),.int .i64 v.ID.P,.int .u16 ((v.Set:Nat):Int)]::L)) rfl (fun u hu => hu.drop.weaken hle371) hs380 ?_
 refine u_st (k:=12) (v:=.bool ((hasT e89 v.ID).isSome)) rfl rfl (fun w hs => (x_assign (.tmp rfl rfl))) ?_
 refine u_nil ?_
 refine n_then (c_seq (u_region (L:=obj g363 47 [.int .u64 ((((((hasT e89 v.ID).getD view0).ID).N):Nat):Int),.int .i64 ((((hasT e89 v.ID).getD view0).ID).P),.int .u16 (((((hasT e89 v.ID).getD view0).Set):Nat):Int)]::obj g17 47 [.int .u64 ((v.ID.N:Nat):Int),.int .i64 v.ID.P,.int .u16 ((v.Set:Nat):Int)]::L) (L':=obj g363 47 [.int .u64 ((((((hasT e89 v.ID).getD view0).ID).N):Nat):Int),.int .i64 ((((hasT e89 v.ID).getD view0).ID).P),.int .u16 (((((hasT e89 v.ID).getD view0).Set):Nat):Int)]::obj g17 47 [.int .u64 ((v.ID.N:Nat):Int),.int .i64 v.ID.P,.int .u16 ((v.Set:Nat):Int)]::L) (Z:=[7]) (F:=[]) (Lw:=obj g363 47 [.int .u64 ((((((hasT e89 v.ID).getD view0).ID).N):Nat):Int),.int .i64 ((((hasT e89 v.ID).getD view0).ID).P),.int .u16 (((((hasT e89 v.ID).getD view0).Set):Nat):Int)]::obj g17 47 [.int .u64 ((v.ID.N:Nat):Int),.int .i64 v.ID.P,.int .u16 ((v.Set:Nat):Int)]::L) (pl:=(.q 0 (.q 1 (.q 2 (.q 3 (.q 4 (.q 5 (.q 6 (.e 7 (.q 8 .done)))))))))) mixed hs380 (fun u hu => hu) (fun u hu => hu) (by kernel_rfl) ?_))
 intro w381 hs382
 refine u_st (k:=0) (v:=.slice A_tr n_tr c_tr) rfl rfl (fun w hs => (x_move (.tmp rfl hρ79))) ?_
 refine u_st (k:=1) (v:=.int .i64 ((j:Nat):Int)) rfl rfl (fun w hs => (x_move (.tmp rfl hρ84))) ?_
 refine u_st (k:=2) (v:=.pointer (some ⟨b90,(o91 + j * 1),none⟩)) rfl rfl (fun w hs => (ixo36 (.tmp rfl rfl) hA94 (i:=((j:Nat):Int)) (.tmp rfl rfl) (by omega) (by omega) (by omega))) ?_
 refine u_st (k:=3) (v:=.slice A97 n98 c99) rfl rfl (fun w hs => (ld41 (.tmp rfl rfl) ((hat96x (hs.weaken hle371)).cell 0 rfl))) ?_
 refine u_st (k:=4) (v:=.int .i64 ((j:Nat):Int)) rfl rfl (fun w hs => (x_move (.tmp rfl hρ84))) ?_
 refine u_st (k:=5) (v:=.pointer (some ⟨g17,0 + 0,none⟩)) rfl rfl (fun w hs => (fa47_0 (.tmp rfl hρ81))) ?_
 refine u_st (k:=6) (v:=.agg #[.int .u64 ((v.ID.N:Nat):Int),.int .i64 v.ID.P]) rfl rfl (fun w hs => (ld44 (cs:=[.int .u64 ((v.ID.N:Nat):Int),.int .i64 v.ID.P]) (.tmp rfl rfl) (hs.at_ 1 rfl (0 + 0) rfl) rfl)) ?_
 refine u_eff (k:=7) rfl ?_
 have hr383:kViewID.rep H370 v.ID [.int .u64 ((v.ID.N:Nat):Int),.int .i64 v.ID.P]:=⟨rfl,b1,⟨b2,b3⟩⟩
 refine st_c cb43 .func (evs4 (.tmp rfl rfl) (.tmp rfl rfl) .const (.tmp rfl rfl)) (items14_spec hs382 e89 (hl100.mono hle371) ((j:Nat):Int) ⟨by omega,by omega⟩ 3 (by decide) v.ID hr383 ) ?_
 rintro e w384 ⟨H386,A388,n389,c390,hle387,rfl,sp391,hs385⟩
 have:=sp391.len; have:=sp391.le; have:n389 * 32 ≤ 140737488351232:=sp391.bnd
 refine ⟨_,rfl,?_⟩
 refine u_new (S':=fun u => St H386 u (obj g363 47 [.int .u64 ((((((hasT e89 v.ID).getD view0).ID).N):Nat):Int),.int .i64 ((((hasT e89 v.ID).getD view0).ID).P),.int .u16 (((((hasT e89 v.ID).getD view0).Set):Nat):Int)]::obj g17 47 [.int .u64 ((v.ID.N:Nat):Int),.int .i64 v.ID.P,.int .u16 ((v.Set:Nat):Int)]::L)) rfl (fun u hu => hu.weaken hle387) hs385 ?_
 refine u_st (k:=8) (v:=.slice A388 n389 c390) rfl rfl (fun w hs => (x_assign (.tmp rfl rfl))) ?_
 refine u_nil ?_
 refine n_then (c_seq (c_region (st (v:=.slice A28 n29 c30) (x_move (.tmp rfl hρ82)) ?_)))
 refine st (v:=.int .i64 ((j:Nat):Int)) (x_move (.tmp rfl hρ84)) ?_
 refine st_c cb45 .func (evs2 (.tmp rfl rfl) (.tmp rfl rfl)) (from14_spec hs385 (itemsT e5 ((i:Nat):Int) 3 v.ID) ((((sp31.mono hle38).mono hg78).mono hle371).mono hle387) ((j:Nat):Int) ⟨by omega,by omega⟩ ) ?_
 rintro e w392 ⟨H394,A396,n397,c398,hle395,rfl,sp399,hs393⟩
 have:=sp399.len; have:=sp399.le; have:n397 * 32 ≤ 140737488351232:=sp399.bnd
 refine ⟨_,rfl,?_⟩
 refine st (v:=.slice A396 n397 c398) (x_assign (.tmp rfl rfl)) ?_
 refine c_nil (n_then (c_seq (c_seq (c_region (st (v:=.bool ((hasT e89 v.ID).isSome)) (x_move (.tmp rfl rfl)) ?_)))))
 refine st (v:=.bool (!((hasT e89 v.ID).isSome))) (x_not (.tmp rfl rfl)) ?_
 refine c_nil (n_then ?_)
 rcases Bool.eq_false_or_eq_true ((hasT e89 v.ID).isSome) with hc400 | hc400
 refine c_cond_f (t:=false) (.tmp rfl (cVb (by rw [hc400]; rfl))) rfl ?_
 refine c_skip (n_then (c_seq (c_seq (t_region (L:=obj g363 47 [.int .u64 ((((((hasT e89 v.ID).getD view0).ID).N):Nat):Int),.int .i64 ((((hasT e89 v.ID).getD view0).ID).P),.int .u16 (((((hasT e89 v.ID).getD view0).Set):Nat):Int)]::obj g17 47 [.int .u64 ((v.ID.N:Nat):Int),.int .i64 v.ID.P,.int .u16 ((v.Set:Nat):Int)]::L) (L':=obj g363 47 [.int .u64 ((((((hasT e89 v.ID).getD view0).ID).N):Nat):Int),.int .i64 ((((hasT e89 v.ID).getD view0).ID).P),.int .u16 (((((hasT e89 v.ID).getD view0).Set):Nat):Int)]::obj g17 47 [.int .u64 ((v.ID.N:Nat):Int),.int .i64 v.ID.P,.int .u16 ((v.Set:Nat):Int)]::L) (Z:=[6,11]) (F:=[]) (pl:=(.q 0 (.q 1 (.q 2 (.q 3 (.q 4 (.q 5 (.e 6 (.q 7 (.q 8 (.q 9 (.q 10 (.e 11 (.q 12 (.q 13 (.q 14 (.q 15 (.q 16 (.q 17 (.q 18 (.q 19 (.q 20 (.q 21 (.q 22 (.q 23 (.e 24 (.e 25 (.q 26 (.q 27 .done))))))))))))))))))))))))))))) mixed hs393 (fun u hu => hu) (by kernel_rfl) ?_))))
 intro w401 hs402
 refine t_st (k:=0) (v:=.agg #[.int .u64 ((((((hasT e89 v.ID).getD view0).ID).N):Nat):Int),.int .i64 ((((hasT e89 v.ID).getD view0).ID).P),.int .u16 (((((hasT e89 v.ID).getD view0).Set):Nat):Int)]) rfl rfl (fun w hs => (ld47 (cs:=[.int .u64 ((((((hasT e89 v.ID).getD view0).ID).N):Nat):Int),.int .i64 ((((hasT e89 v.ID).getD view0).ID).P),.int .u16 (((((hasT e89 v.ID).getD view0).Set):Nat):Int)]) (.tmp rfl rfl) (hs.at_ 0 rfl (0) rfl) rfl)) ?_
 refine t_st (k:=1) (v:=.agg #[.int .u64 ((v.ID.N:Nat):Int),.int .i64 v.ID.P,.int .u16 ((v.Set:Nat):Int)]) rfl rfl (fun w hs => (ld47 (cs:=[.int .u64 ((v.ID.N:Nat):Int),.int .i64 v.ID.P,.int .u16 ((v.Set:Nat):Int)]) (.tmp rfl hρ81) (hs.at_ 1 rfl (0) rfl) rfl)) ?_
 refine t_st (k:=2) (v:=.bool (!(((((((((hasT e89 v.ID).getD view0).ID).N):Nat):Int) == ((v.ID.N:Nat):Int)) && ((((((hasT e89 v.ID).getD view0).ID).P) == v.ID.P) && true)) && (((((((hasT e89 v.ID).getD view0).Set):Nat):Int) == ((v.Set:Nat):Int)) && true)))) rfl rfl (fun w hs => (x_neqA eqg47 (.tmp rfl rfl) (.tmp rfl rfl) (fun d => eqs47 (d + 97) _ ((((((hasT e89 v.ID).getD view0).ID).N):Nat):Int) ((v.ID.N:Nat):Int) ((((hasT e89 v.ID).getD view0).ID).P) v.ID.P (((((hasT e89 v.ID).getD view0).Set):Nat):Int) ((v.Set:Nat):Int)))) ?_
 refine t_st (k:=3) (v:=.bool (!(decide (((hasT e89 v.ID).getD view0) = v)))) rfl rfl (fun w hs => (x_move (.tmp rfl (congrArg (fun z => Value.bool (!z)) (GView.beq_dec ((hasT e89 v.ID).getD view0) v))))) ?_
 rcases Bool.eq_false_or_eq_true (decide (((hasT e89 v.ID).getD view0) = v)) with hc403 | hc403
 have hp403:((hasT e89 v.ID).getD view0) = v:=of_decide_eq_true hc403
 refine t_yes (k:=4) (v:=.slice A28 n29 c30) rfl rfl (yl (dj:=101) (b:=false) rfl rfl (cVb (by rw [hc403]; rfl))) (fun w hs => (x_move (.tmp rfl hρ82))) ?_
 refine t_yes (k:=5) (v:=.slice A388 n389 c390) rfl rfl (yl (dj:=101) (b:=false) rfl rfl (cVb (by rw [hc403]; rfl))) (fun w hs => (x_move (.tmp rfl rfl))) ?_
 refine t_eff (k:=6) rfl ?_
 refine g_yes (yl (dj:=101) (b:=false) rfl rfl (cVb (by rw [hc403]; rfl))) ?_
 refine st_c cb42 .func (evs2 (.tmp rfl rfl) (.tmp rfl rfl)) (begins14_spec hs402 (itemsT e5 ((i:Nat):Int) 3 v.ID) (((((sp31.mono hle38).mono hg78).mono hle371).mono hle387).mono hle395) (itemsT e89 ((j:Nat):Int) 3 v.ID) (sp391.mono hle395) ) ?_
 rintro e w404 ⟨rfl,hs405⟩
 refine ⟨_,rfl,?_⟩
 refine t_new (S':=fun u => St H394 u (obj g363 47 [.int .u64 ((((((hasT e89 v.ID).getD view0).ID).N):Nat):Int),.int .i64 ((((hasT e89 v.ID).getD view0).ID).P),.int .u16 (((((hasT e89 v.ID).getD view0).Set):Nat):Int)]::obj g17 47 [.int .u64 ((v.ID.N:Nat):Int),.int .i64 v.ID.P,.int .u16 ((v.Set:Nat):Int)]::L)) rfl hs405 ?_
 refine t_yes (k:=7) (v:=.bool (!(beginsT (itemsT e5 ((i:Nat):Int) 3 v.ID) (itemsT e89 ((j:Nat):Int) 3 v.ID)))) rfl rfl (yl (dj:=101) (b:=false) rfl rfl (cVb (by rw [hc403]; rfl))) (fun w hs => (x_not (.tmp rfl rfl))) ?_
 refine t_yes (k:=8) (v:=.bool (!(beginsT (itemsT e5 ((i:Nat):Int) 3 v.ID) (itemsT e89 ((j:Nat):Int) 3 v.ID)))) rfl rfl (yl (dj:=101) (b:=false) rfl rfl (cVb (by rw [hc403]; rfl))) (fun w hs => (x_move (.tmp rfl rfl))) ?_
 rcases Bool.eq_false_or_eq_true (beginsT (itemsT e5 ((i:Nat):Int) 3 v.ID) (itemsT e89 ((j:Nat):Int) 3 v.ID)) with hc406 | hc406
 refine t_no (k:=9) rfl (yl (dj:=106) (b:=false) rfl rfl (cVb (by rw [hc406]; rfl))) rfl ?_
 refine t_no (k:=10) rfl (yl (dj:=106) (b:=false) rfl rfl (cVb (by rw [hc406]; rfl))) rfl ?_
 refine t_eff (k:=11) rfl ?_
 refine g_no (yl (dj:=106) (b:=false) rfl rfl (cVb (by rw [hc406]; rfl))) rfl ?_
 refine t_new (S':=fun u => St H394 u (obj g363 47 [.int .u64 ((((((hasT e89 v.ID).getD view0).ID).N):Nat):Int),.int .i64 ((((hasT e89 v.ID).getD view0).ID).P),.int .u16 (((((hasT e89 v.ID).getD view0).Set):Nat):Int)]::obj g17 47 [.int .u64 ((v.ID.N:Nat):Int),.int .i64 v.ID.P,.int .u16 ((v.Set:Nat):Int)]::L)) rfl hs405 ?_
 refine t_no (k:=12) rfl (yl (dj:=106) (b:=false) rfl rfl (cVb (by rw [hc406]; rfl))) rfl ?_
 refine t_yes (k:=13) (v:=.bool false) rfl rfl (yl (dj:=101) (b:=false) rfl rfl (cVb (by rw [hc403]; rfl))) (fun w hs => (x_pick_f (.tmp rfl (cVb (by rw [hc406]; rfl))) .const)) ?_
 refine t_st (k:=14) (v:=.bool false) rfl rfl (fun w hs => (x_pick_f (.tmp rfl (cVb (by rw [hc403]; rfl))) (.tmp rfl rfl))) ?_
 refine t_st (k:=15) (v:=.bool false) rfl rfl (fun w hs => (x_move (.tmp rfl rfl))) ?_
 refine t_yes (k:=16) (v:=.slice A396 n397 c398) rfl rfl (yl (dj:=113) (b:=false) rfl rfl rfl) (fun w hs => (x_move (.tmp rfl rfl))) ?_
 refine t_yes (k:=17) (v:=.slice A_tr n_tr c_tr) rfl rfl (yl (dj:=113) (b:=false) rfl rfl rfl) (fun w hs => (x_move (.tmp rfl hρ79))) ?_
 refine t_yes (k:=18) (v:=.int .i64 ((j:Nat):Int)) rfl rfl (yl (dj:=113) (b:=false) rfl rfl rfl) (fun w hs => (x_move (.tmp rfl hρ84))) ?_
 refine t_yes (k:=19) (v:=.pointer (some ⟨b90,(o91 + j * 1),none⟩)) rfl rfl (yl (dj:=113) (b:=false) rfl rfl rfl) (fun w hs => (ixo36 (.tmp rfl rfl) hA94 (i:=((j:Nat):Int)) (.tmp rfl rfl) (by omega) (by omega) (by omega))) ?_
 refine t_yes (k:=20) (v:=.slice A97 n98 c99) rfl rfl (yl (dj:=113) (b:=false) rfl rfl rfl) (fun w hs => (ld41 (.tmp rfl rfl) ((hat96x (((hs.weaken hle395).weaken hle387).weaken hle371)).cell 0 rfl))) ?_
 refine t_yes (k:=21) (v:=.int .i64 ((j:Nat):Int)) rfl rfl (yl (dj:=113) (b:=false) rfl rfl rfl) (fun w hs => (x_move (.tmp rfl hρ84))) ?_
 refine t_yes (k:=22) (v:=.pointer (some ⟨g17,0 + 0,none⟩)) rfl rfl (yl (dj:=113) (b:=false) rfl rfl rfl) (fun w hs => (fa47_0 (.tmp rfl hρ81))) ?_
 refine t_yes (k:=23) (v:=.agg #[.int .u64 ((v.ID.N:Nat):Int),.int .i64 v.ID.P]) rfl rfl (yl (dj:=113) (b:=false) rfl rfl rfl) (fun w hs => (ld44 (cs:=[.int .u64 ((v.ID.N:Nat):Int),.int .i64 v.ID.P]) (.tmp rfl rfl) (hs.at_ 1 rfl (0 + 0) rfl) rfl)) ?_
 refine t_eff (k:=24) rfl ?_
 refine g_yes (yl (dj:=113) (b:=false) rfl rfl rfl) ?_
 have hr407:kViewID.rep H394 v.ID [.int .u64 ((v.ID.N:Nat):Int),.int .i64 v.ID.P]:=⟨rfl,b1,⟨b2,b3⟩⟩
 refine st_c cb43 .func (evs4 (.tmp rfl rfl) (.tmp rfl rfl) .const (.tmp rfl rfl)) (items14_spec hs405 e89 (((hl100.mono hle371).mono hle387).mono hle395) ((j:Nat):Int) ⟨by omega,by omega⟩ 2 (by decide) v.ID hr407 ) ?_
 rintro e w408 ⟨H410,A412,n413,c414,hle411,rfl,sp415,hs409⟩
 have:=sp415.len; have:=sp415.le; have:n413 * 32 ≤ 140737488351232:=sp415.bnd
 refine ⟨_,rfl,?_⟩
 refine t_on (S':=fun u => St H410 u (obj g363 47 [.int .u64 ((((((hasT e89 v.ID).getD view0).ID).N):Nat):Int),.int .i64 ((((hasT e89 v.ID).getD view0).ID).P),.int .u16 (((((hasT e89 v.ID).getD view0).Set):Nat):Int)]::obj g17 47 [.int .u64 ((v.ID.N:Nat):Int),.int .i64 v.ID.P,.int .u16 ((v.Set:Nat):Int)]::L)) (fun u hu => hu.weaken hle411) hs409 ?_
 refine t_eff (k:=25) rfl ?_
 refine g_yes (yl (dj:=113) (b:=false) rfl rfl rfl) ?_
 refine st_c cb42 .func (evs2 (.tmp rfl rfl) (.tmp rfl rfl)) (begins14_spec hs409 (fromT (itemsT e5 ((i:Nat):Int) 3 v.ID) ((j:Nat):Int)) (sp399.mono hle411) (itemsT e89 ((j:Nat):Int) 2 v.ID) sp415 ) ?_
 rintro e w416 ⟨rfl,hs417⟩
 refine ⟨_,rfl,?_⟩
 refine t_on (S':=fun u => St H410 u (obj g363 47 [.int .u64 ((((((hasT e89 v.ID).getD view0).ID).N):Nat):Int),.int .i64 ((((hasT e89 v.ID).getD view0).ID).P),.int .u16 (((((hasT e89 v.ID).getD view0).Set):Nat):Int)]::obj g17 47 [.int .u64 ((v.ID.N:Nat):Int),.int .i64 v.ID.P,.int .u16 ((v.Set:Nat):Int)]::L)) (fun u hu => hu) hs417 ?_
 refine t_yes (k:=26) (v:=.bool (!(beginsT (fromT (itemsT e5 ((i:Nat):Int) 3 v.ID) ((j:Nat):Int)) (itemsT e89 ((j:Nat):Int) 2 v.ID)))) rfl rfl (yl (dj:=113) (b:=false) rfl rfl rfl) (fun w hs => (x_not (.tmp rfl rfl))) ?_
 refine t_st (k:=27) (v:=.bool (!(beginsT (fromT (itemsT e5 ((i:Nat):Int) 3 v.ID) ((j:Nat):Int)) (itemsT e89 ((j:Nat):Int) 2 v.ID)))) rfl rfl (fun w hs => (x_pick_f (.tmp rfl rfl) (.tmp rfl rfl))) ?_
 refine t_nil ?_
 refine n_then ?_
 rcases Bool.eq_false_or_eq_true (beginsT (fromT (itemsT e5 ((i:Nat):Int) 3 v.ID) ((j:Nat):Int)) (itemsT e89 ((j:Nat):Int) 2 v.ID)) with hc418 | hc418
 refine c_cond_f (t:=false) (.tmp rfl (cVb (by rw [hc418]; rfl))) rfl ?_
 refine c_skip (n_then (c_seq (c_seq (c_region (st (v:=.int .i64 ((n40:Nat):Int)) (x_move (.tmp rfl hρ83)) ?_)))))
 refine st (v:=.slice A388 n389 c390) (x_move (.tmp rfl rfl)) ?_
 refine st (v:=.int .i64 ((n389:Nat):Int)) (x_len (n:=n389) Tryd.underlying25 (.tmp rfl rfl)) ?_
 refine st (v:=.bool (decide ((((n389:Nat):Int):Int) < ((n40:Nat):Int)))) (x_gtr (k:=.i64) (a:=((n40:Nat):Int)) (b:=((n389:Nat):Int)) (.tmp rfl rfl) (.tmp rfl rfl)) ?_
 refine st (v:=.bool (decide ((((n389:Nat):Int):Int) < ((n40:Nat):Int)))) (x_move (.tmp rfl rfl)) ?_
 refine jw 5 (fun ρ w => ρ 135 = .bool ((decide ((((n389:Nat):Int):Int) < ((n40:Nat):Int))) && (has v.Set ((j:Nat):Int)))∧ρ 0 = .slice A_tr n_tr c_tr∧ρ 1 = .int .i64 ((i:Nat):Int)∧ρ 5 = .pointer (some ⟨g17,0,none⟩)∧ρ 7 = .slice A28 n29 c30∧ρ 8 = .int .i64 ((n40:Nat):Int)∧ρ 10 = .int .i64 ((j:Nat):Int)∧ρ 13 = .slice A388 n389 c390∧St H410 w (obj g363 47 [.int .u64 ((((((hasT e89 v.ID).getD view0).ID).N):Nat):Int),.int .i64 ((((hasT e89 v.ID).getD view0).ID).P),.int .u16 (((((hasT e89 v.ID).getD view0).Set):Nat):Int)]::obj g17 47 [.int .u64 ((v.ID.N:Nat):Int),.int .i64 v.ID.P,.int .u16 ((v.Set:Nat):Int)]::L)) ?_ ?_
 rcases Bool.eq_false_or_eq_true (decide ((((n389:Nat):Int):Int) < ((n40:Nat):Int))) with hc419 | hc419
 have hp419:(((n389:Nat):Int):Int) < ((n40:Nat):Int):=of_decide_eq_true hc419
 refine g_yes (yk 130 true rfl rfl hc419) ?_
 refine st (v:=.pointer (some ⟨g17,0 + 2,none⟩)) (fa47_1 (.tmp rfl hρ81)) ?_
 refine g_yes (yk 130 true rfl rfl hc419) ?_
 refine st (v:=.int .u16 ((v.Set:Nat):Int)) (ld45 (.tmp rfl rfl) (hs417.cell 1 rfl (0 + 2) rfl)) ?_
 refine g_yes (yk 130 true rfl rfl hc419) ?_
 refine st (v:=.int .i64 ((j:Nat):Int)) (x_move (.tmp rfl hρ84)) ?_
 refine g_yes (yk 130 true rfl rfl hc419) ?_
 refine st_c cb40 .func (evs2 (.tmp rfl rfl) (.tmp rfl rfl)) (rhas_spec hs417 v.Set ((j:Nat):Int) b4 (by omega)) ?_
 rintro e w420 ⟨rfl,hs421⟩
 refine ⟨_,rfl,?_⟩
 refine st (v:=.bool (has v.Set ((j:Nat):Int))) (x_pick_t (.tmp rfl (cVb hc419)) (.tmp rfl rfl)) ?_
 exact jw_end ⟨(cVb (jand_t hc419)),hρ79,hρ80,hρ81,hρ82,hρ83,hρ84,rfl,hs421⟩
 have hp419:¬ ((((n389:Nat):Int):Int) < ((n40:Nat):Int)):=of_decide_eq_false hc419
 refine g_no (yk 130 false rfl rfl hc419) rfl ?_
 refine g_no (yk 130 false rfl rfl hc419) rfl ?_
 refine g_no (yk 130 false rfl rfl hc419) rfl ?_
 refine g_no (yk 130 false rfl rfl hc419) rfl ?_
 refine st (v:=.bool false) (x_pick_f (.tmp rfl (cVb hc419)) .const) ?_
 exact jw_end ⟨(cVb (jand_f hc419)),hρ79,hρ80,hρ81,hρ82,hρ83,hρ84,rfl,hs417⟩
 rintro ρ w ⟨hρ422,hρ423,hρ424,hρ425,hρ426,hρ427,hρ428,hρ429,hs430⟩
 refine c_nil (n_then ?_)
 rcases Bool.eq_false_or_eq_true ((decide ((((n389:Nat):Int):Int) < ((n40:Nat):Int))) && (has v.Set ((j:Nat):Int))) with hc431 | hc431
 have hp431:((((n389:Nat):Int):Int) < ((n40:Nat):Int))∧((has v.Set ((j:Nat):Int)) = true):=((J_and decide_eq_true_iff Iff.rfl)).1 hc431
 refine c_cond_t (t:=true) (.tmp rfl (hρ422.trans (cVb hc431))) rfl ?_
 refine c_seq (c_region (st (v:=.bool false) (x_assign .const) ?_))
 refine c_nil (n_then (c_ret (r_then (r_block (r_then (r_then (r_block (r_then (leave_ret (res_one (v:=.bool false) rfl (.mk rfl rfl)) ?_)))))))))
 have hans432:inviewT tr i v = false:=inview_no2 (j:=j) (by omega) ((seeT_is hx9 hx93).trans (see_bad4 hc400 (by have h9:=hc431; simp only [Bool.and_eq_true,decide_eq_true_eq] at h9; have:=h9.1; omega) (by have h9:=hc431; simp only [Bool.and_eq_true,decide_eq_true_eq] at h9; exact h9.2)))
 rw [hans432]
 exact ⟨H410,((((((hle27.trans hle38).trans hg78).trans hle371).trans hle387).trans hle395).trans hle411),rfl,hs430.drop.drop⟩
 have hp431:¬ (((((n389:Nat):Int):Int) < ((n40:Nat):Int))∧((has v.Set ((j:Nat):Int)) = true)):=J_no (J_and decide_eq_true_iff Iff.rfl) hc431
 refine c_cond_f (t:=false) (.tmp rfl (hρ422.trans (cVb hc431))) rfl ?_
 refine c_skip (n_then (c_seq (u_region (L:=obj g363 47 [.int .u64 ((((((hasT e89 v.ID).getD view0).ID).N):Nat):Int),.int .i64 ((((hasT e89 v.ID).getD view0).ID).P),.int .u16 (((((hasT e89 v.ID).getD view0).Set):Nat):Int)]::obj g17 47 [.int .u64 ((v.ID.N:Nat):Int),.int .i64 v.ID.P,.int .u16 ((v.Set:Nat):Int)]::L) (L':=obj g363 47 [.int .u64 ((((((hasT e89 v.ID).getD view0).ID).N):Nat):Int),.int .i64 ((((hasT e89 v.ID).getD view0).ID).P),.int .u16 (((((hasT e89 v.ID).getD view0).Set):Nat):Int)]::obj g17 47 [.int .u64 ((v.ID.N:Nat):Int),.int .i64 v.ID.P,.int .u16 ((v.Set:Nat):Int)]::L) (Z:=[6,8]) (F:=[]) (Lw:=obj g363 47 [.int .u64 ((((((hasT e89 v.ID).getD view0).ID).N):Nat):Int),.int .i64 ((((hasT e89 v.ID).getD view0).ID).P),.int .u16 (((((hasT e89 v.ID).getD view0).Set):Nat):Int)]::obj g17 47 [.int .u64 ((v.ID.N:Nat):Int),.int .i64 v.ID.P,.int .u16 ((v.Set:Nat):Int)]::L) (pl:=(.q 0 (.q 1 (.q 2 (.q 3 (.q 4 (.q 5 (.two 6 (.e 7 (.e 8 .done)) 7 (.e 6 (.e 8 .done)))))))))) mixed hs430 (fun u hu => hu) (fun u hu => hu) (by kernel_rfl) ?_)))
 intro w433 hs434
 refine u_st (k:=0) (v:=.slice A_tr n_tr c_tr) rfl rfl (fun w hs => (x_move (.tmp rfl hρ423))) ?_
 refine u_st (k:=1) (v:=.int .i64 ((i:Nat):Int)) rfl rfl (fun w hs => (x_move (.tmp rfl hρ424))) ?_
 refine u_st (k:=2) (v:=.pointer (some ⟨b6,(o7 + i * 1),none⟩)) rfl rfl (fun w hs => (ixo36 (.tmp rfl rfl) hA10 (i:=((i:Nat):Int)) (.tmp rfl rfl) (by omega) (by omega) (by omega))) ?_
 refine u_st (k:=3) (v:=.slice A13 n14 c15) rfl rfl (fun w hs => (ld41 (.tmp rfl rfl) ((hat12x (((((((hs.weaken hle411).weaken hle395).weaken hle387).weaken hle371).weaken hg78).weaken hle38).weaken hle27)).cell 0 rfl))) ?_
 refine u_st (k:=4) (v:=.pointer (some ⟨g17,0 + 0,none⟩)) rfl rfl (fun w hs => (fa47_0 (.tmp rfl hρ425))) ?_
 refine u_st (k:=5) (v:=.agg #[.int .u64 ((v.ID.N:Nat):Int),.int .i64 v.ID.P]) rfl rfl (fun w hs => (ld44 (cs:=[.int .u64 ((v.ID.N:Nat):Int),.int .i64 v.ID.P]) (.tmp rfl rfl) (hs.at_ 1 rfl (0 + 0) rfl) rfl)) ?_
 refine u_two ?_ ?_
 refine u_eff (k:=6) rfl ?_
 have hr435:kViewID.rep H410 v.ID [.int .u64 ((v.ID.N:Nat):Int),.int .i64 v.ID.P]:=⟨rfl,b1,⟨b2,b3⟩⟩
 refine st_c cb46 .func (evs2 (.tmp rfl rfl) (.tmp rfl rfl)) (next14_spec hs434 e5 (((((((hl16.mono hle27).mono hle38).mono hg78).mono hle371).mono hle387).mono hle395).mono hle411) v.ID hr435 ) ?_
 rintro e w436 ⟨H438,cs440,hle439,rfl,hr441,hs437⟩
 obtain ⟨rfl,b442,⟨b443,b444⟩⟩:=hr441
 refine ⟨_,rfl,?_⟩
 refine u_new (S':=fun u => St H438 u (obj g363 47 [.int .u64 ((((((hasT e89 v.ID).getD view0).ID).N):Nat):Int),.int .i64 ((((hasT e89 v.ID).getD view0).ID).P),.int .u16 (((((hasT e89 v.ID).getD view0).Set):Nat):Int)]::obj g17 47 [.int .u64 ((v.ID.N:Nat):Int),.int .i64 v.ID.P,.int .u16 ((v.Set:Nat):Int)]::L)) rfl (fun u hu => hu.weaken hle439) hs437 ?_
 refine u_eff (k:=7) rfl ?_
 refine st_m (al44 (cs:=[.int .u64 0,.int .i64 0]) hs437 rfl) ?_
 rintro _ w446 ⟨g445,rfl,hs448⟩
 refine u_on (S':=fun u => St H438 u (obj g445 44 [.int .u64 0,.int .i64 0]::obj g363 47 [.int .u64 ((((((hasT e89 v.ID).getD view0).ID).N):Nat):Int),.int .i64 ((((hasT e89 v.ID).getD view0).ID).P),.int .u16 (((((hasT e89 v.ID).getD view0).Set):Nat):Int)]::obj g17 47 [.int .u64 ((v.ID.N:Nat):Int),.int .i64 v.ID.P,.int .u16 ((v.Set:Nat):Int)]::L)) (fun u hu => hu.drop) (fun u hu => hu.drop.weaken hle439) hs448 ?_
 refine u_eff (k:=8) rfl ?_
 refine st_m0 (sto44 (cs':=[.int .u64 ((((nextT e5 v.ID).N):Nat):Int),.int .i64 ((nextT e5 v.ID).P)]) (i:=0) hs448 (v:=.agg #[.int .u64 ((((nextT e5 v.ID).N):Nat):Int),.int .i64 ((nextT e5 v.ID).P)]) (.tmp rfl rfl) (.tmp rfl rfl) rfl (Nat.le_of_ble_eq_true rfl) (oneA rfl) rfl) ?_
 rintro w449 hs451
 refine u_new (S':=fun u => St H438 u (obj g445 44 [.int .u64 ((((nextT e5 v.ID).N):Nat):Int),.int .i64 ((nextT e5 v.ID).P)]::obj g363 47 [.int .u64 ((((((hasT e89 v.ID).getD view0).ID).N):Nat):Int),.int .i64 ((((hasT e89 v.ID).getD view0).ID).P),.int .u16 (((((hasT e89 v.ID).getD view0).Set):Nat):Int)]::obj g17 47 [.int .u64 ((v.ID.N:Nat):Int),.int .i64 v.ID.P,.int .u16 ((v.Set:Nat):Int)]::L)) rfl (fun u hu => hu.drop.weaken hle439) hs451 ?_
 refine u_nil ?_
 refine n_then (c_seq (t_region (L:=obj g445 44 [.int .u64 ((((nextT e5 v.ID).N):Nat):Int),.int .i64 ((nextT e5 v.ID).P)]::obj g363 47 [.int .u64 ((((((hasT e89 v.ID).getD view0).ID).N):Nat):Int),.int .i64 ((((hasT e89 v.ID).getD view0).ID).P),.int .u16 (((((hasT e89 v.ID).getD view0).Set):Nat):Int)]::obj g17 47 [.int .u64 ((v.ID.N:Nat):Int),.int .i64 v.ID.P,.int .u16 ((v.Set:Nat):Int)]::L) (L':=obj g445 44 [.int .u64 ((((nextT e5 v.ID).N):Nat):Int),.int .i64 ((nextT e5 v.ID).P)]::obj g363 47 [.int .u64 ((((((hasT e89 v.ID).getD view0).ID).N):Nat):Int),.int .i64 ((((hasT e89 v.ID).getD view0).ID).P),.int .u16 (((((hasT e89 v.ID).getD view0).Set):Nat):Int)]::obj g17 47 [.int .u64 ((v.ID.N:Nat):Int),.int .i64 v.ID.P,.int .u16 ((v.Set:Nat):Int)]::L) (Z:=[]) (F:=[]) (pl:=(.q 0 (.q 1 (.q 2 (.q 3 (.q 4 (.q 5 (.q 6 (.q 7 (.q 8 (.q 9 (.q 10 (.e 11 (.q 12 (.q 13 (.q 14 (.q 15 (.q 16 (.q 17 (.q 18 (.q 19 (.q 20 .done)))))))))))))))))))))) mixed hs451 (fun u hu => hu) (by kernel_rfl) ?_))
 intro w452 hs453
 refine t_st (k:=0) (v:=.pointer (some ⟨g445,0 + 0,none⟩)) rfl rfl (fun w hs => (fa44_0 (.tmp rfl rfl))) ?_
 refine t_st (k:=1) (v:=.int .u64 ((((nextT e5 v.ID).N):Nat):Int)) rfl rfl (fun w hs => (ld42 (.tmp rfl rfl) (hs.cell 0 rfl (0 + 0) rfl))) ?_
 refine t_st (k:=2) (v:=.bool (decide ((0:Int) < ((((nextT e5 v.ID).N):Nat):Int)))) rfl rfl (fun w hs => (x_gtr (k:=.u64) (a:=((((nextT e5 v.ID).N):Nat):Int)) (b:=0) (.tmp rfl rfl) .const)) ?_
 refine t_st (k:=3) (v:=.bool (decide ((0:Int) < ((((nextT e5 v.ID).N):Nat):Int)))) rfl rfl (fun w hs => (x_move (.tmp rfl rfl))) ?_
 rcases Bool.eq_false_or_eq_true (decide ((0:Int) < ((((nextT e5 v.ID).N):Nat):Int))) with hc454 | hc454
 have hp454:(0:Int) < ((((nextT e5 v.ID).N):Nat):Int):=of_decide_eq_true hc454
 refine t_yes (k:=4) (v:=.agg #[.int .u64 ((((nextT e5 v.ID).N):Nat):Int),.int .i64 ((nextT e5 v.ID).P)]) rfl rfl (yk 146 true rfl rfl hc454) (fun w hs => (ld44 (cs:=[.int .u64 ((((nextT e5 v.ID).N):Nat):Int),.int .i64 ((nextT e5 v.ID).P)]) (.tmp rfl rfl) (hs.at_ 0 rfl (0) rfl) rfl)) ?_
 refine t_yes (k:=5) (v:=.slice A_tr n_tr c_tr) rfl rfl (yk 146 true rfl rfl hc454) (fun w hs => (x_move (.tmp rfl hρ423))) ?_
 refine t_yes (k:=6) (v:=.int .i64 ((j:Nat):Int)) rfl rfl (yk 146 true rfl rfl hc454) (fun w hs => (x_move (.tmp rfl hρ428))) ?_
 refine t_yes (k:=7) (v:=.pointer (some ⟨b90,(o91 + j * 1),none⟩)) rfl rfl (yk 146 true rfl rfl hc454) (fun w hs => (ixo36 (.tmp rfl rfl) hA94 (i:=((j:Nat):Int)) (.tmp rfl rfl) (by omega) (by omega) (by omega))) ?_
 refine t_yes (k:=8) (v:=.slice A97 n98 c99) rfl rfl (yk 146 true rfl rfl hc454) (fun w hs => (ld41 (.tmp rfl rfl) ((hat96x (((((hs.weaken hle439).weaken hle411).weaken hle395).weaken hle387).weaken hle371)).cell 0 rfl))) ?_
 refine t_yes (k:=9) (v:=.pointer (some ⟨g17,0 + 0,none⟩)) rfl rfl (yk 146 true rfl rfl hc454) (fun w hs => (fa47_0 (.tmp rfl hρ425))) ?_
 refine t_yes (k:=10) (v:=.agg #[.int .u64 ((v.ID.N:Nat):Int),.int .i64 v.ID.P]) rfl rfl (yk 146 true rfl rfl hc454) (fun w hs => (ld44 (cs:=[.int .u64 ((v.ID.N:Nat):Int),.int .i64 v.ID.P]) (.tmp rfl rfl) (hs.at_ 2 rfl (0 + 0) rfl) rfl)) ?_
 refine t_eff (k:=11) rfl ?_
 refine g_yes (yk 146 true rfl rfl hc454) ?_
 have hr455:kViewID.rep H438 v.ID [.int .u64 ((v.ID.N:Nat):Int),.int .i64 v.ID.P]:=⟨rfl,b1,⟨b2,b3⟩⟩
 refine st_c cb46 .func (evs2 (.tmp rfl rfl) (.tmp rfl rfl)) (next14_spec hs453 e89 (((((hl100.mono hle371).mono hle387).mono hle395).mono hle411).mono hle439) v.ID hr455 ) ?_
 rintro e w456 ⟨H458,cs460,hle459,rfl,hr461,hs457⟩
 obtain ⟨rfl,b462,⟨b463,b464⟩⟩:=hr461
 refine ⟨_,rfl,?_⟩
 refine t_on (S':=fun u => St H458 u (obj g445 44 [.int .u64 ((((nextT e5 v.ID).N):Nat):Int),.int .i64 ((nextT e5 v.ID).P)]::obj g363 47 [.int .u64 ((((((hasT e89 v.ID).getD view0).ID).N):Nat):Int),.int .i64 ((((hasT e89 v.ID).getD view0).ID).P),.int .u16 (((((hasT e89 v.ID).getD view0).Set):Nat):Int)]::obj g17 47 [.int .u64 ((v.ID.N:Nat):Int),.int .i64 v.ID.P,.int .u16 ((v.Set:Nat):Int)]::L)) (fun u hu => hu.weaken hle459) hs457 ?_
 refine t_yes (k:=12) (v:=.bool ((((((nextT e5 v.ID).N):Nat):Int) == ((((nextT e89 v.ID).N):Nat):Int)) && ((((nextT e5 v.ID).P) == ((nextT e89 v.ID).P)) && true))) rfl rfl (yk 146 true rfl rfl hc454) (fun w hs => (x_eqlA eqg44 (.tmp rfl rfl) (.tmp rfl rfl) (fun d => eqs44 (d + 98) _ ((((nextT e5 v.ID).N):Nat):Int) ((((nextT e89 v.ID).N):Nat):Int) ((nextT e5 v.ID).P) ((nextT e89 v.ID).P)))) ?_
 refine t_st (k:=13) (v:=.bool (decide ((nextT e5 v.ID) = (nextT e89 v.ID)))) rfl rfl (fun w hs => (x_pick_t (.tmp rfl (cVb hc454)) (.tmp rfl (cVb (GViewID.beq_dec (nextT e5 v.ID) (nextT e89 v.ID)))))) ?_
 refine t_st (k:=14) (v:=.bool (decide ((nextT e5 v.ID) = (nextT e89 v.ID)))) rfl rfl (fun w hs => (x_move (.tmp rfl rfl))) ?_
 rcases Bool.eq_false_or_eq_true (decide ((nextT e5 v.ID) = (nextT e89 v.ID))) with hc465 | hc465
 have hp465:(nextT e5 v.ID) = (nextT e89 v.ID):=of_decide_eq_true hc465
 refine t_yes (k:=15) (v:=.slice A28 n29 c30) rfl rfl (yk 157 true rfl rfl hc465) (fun w hs => (x_move (.tmp rfl hρ426))) ?_
 refine t_yes (k:=16) (v:=.int .i64 ((n29:Nat):Int)) rfl rfl (yk 157 true rfl rfl hc465) (fun w hs => (x_len (n:=n29) Tryd.underlying25 (.tmp rfl rfl))) ?_
 refine t_yes (k:=17) (v:=.slice A388 n389 c390) rfl rfl (yk 157 true rfl rfl hc465) (fun w hs => (x_move (.tmp rfl hρ429))) ?_
 refine t_yes (k:=18) (v:=.int .i64 ((n389:Nat):Int)) rfl rfl (yk 157 true rfl rfl hc465) (fun w hs => (x_len (n:=n389) Tryd.underlying25 (.tmp rfl rfl))) ?_
 refine t_yes (k:=19) (v:=.bool (decide ((((n29:Nat):Int):Int) ≠ ((n389:Nat):Int)))) rfl rfl (yk 157 true rfl rfl hc465) (fun w hs => (x_neq (k:=.i64) (a:=((n29:Nat):Int)) (b:=((n389:Nat):Int)) (.tmp rfl rfl) (.tmp rfl rfl))) ?_
 refine t_st (k:=20) (v:=.bool (decide ((((n29:Nat):Int):Int) ≠ ((n389:Nat):Int)))) rfl rfl (fun w hs => (x_pick_t (.tmp rfl (cVb hc465)) (.tmp rfl rfl))) ?_
 refine t_nil ?_
 refine n_then ?_
 rcases Bool.eq_false_or_eq_true (decide ((((n29:Nat):Int):Int) ≠ ((n389:Nat):Int))) with hc466 | hc466
 have hp466:(((n29:Nat):Int):Int) ≠ ((n389:Nat):Int):=of_decide_eq_true hc466
 refine c_cond_t (t:=true) (.tmp rfl (cVb hc466)) rfl ?_
 refine c_seq (c_region (st (v:=.bool false) (x_assign .const) ?_))
 refine c_nil (n_then (c_ret (r_block (r_then (r_then (r_block (r_then (leave_ret (res_one (v:=.bool false) rfl (.mk rfl rfl)) ?_))))))))
 have hans467:inviewT tr i v = false:=inview_no2 (j:=j) (by omega) ((seeT_is hx9 hx93).trans (see_bad5 hc400 (by omega) (of_decide_eq_true hc465) (by omega)))
 rw [hans467]
 exact ⟨H458,((((((((hle27.trans hle38).trans hg78).trans hle371).trans hle387).trans hle395).trans hle411).trans hle439).trans hle459),rfl,hs457.drop.drop.drop⟩
 have hp466:¬ ((((n29:Nat):Int):Int) ≠ ((n389:Nat):Int)):=of_decide_eq_false hc466
 refine c_cond_f (t:=false) (.tmp rfl (cVb hc466)) rfl ?_
 refine c_skip (n_block (n_then (c_region (st (v:=.int .i64 ((j:Nat):Int)) (x_move (.tmp rfl hρ428)) ?_))))
 refine st (v:=.int .i64 (((j + 1):Nat):Int)) (x_add (k:=.i64) (a:=((j:Nat):Int)) (b:=1) (.tmp rfl rfl) .const ((w64 (by omega) (by omega)).trans (by omega))) ?_
 refine st (v:=.int .i64 (((j + 1):Nat):Int)) (x_assign (.tmp rfl rfl)) ?_
 refine c_nil ?_
 refine n_then ⟨_,_,rfl,?_,H458,(j + 1),hρ423,hρ424,hρ425,hρ426,hρ427,rfl,((((((hg78.trans hle371).trans hle387).trans hle395).trans hle411).trans hle439).trans hle459),(by omega),(see_next (p:=fun j => seeT tr i v j = true) hse ((seeT_is hx9 hx93).trans (see_ok hc400 (of_decide_eq_true hc403) (.inl hc406) hc418 (by have h9:=hc431; simp only [Bool.and_eq_false_iff,decide_eq_false_iff_not] at h9; rintro ⟨h8,h7⟩; rcases h9 with h9 | h9; omega; rw [h7] at h9; cases h9) (by rintro ⟨h8,h7,h6⟩; omega)))),hs457.drop.drop,rfl⟩
 omega
 have hp465:¬ ((nextT e5 v.ID) = (nextT e89 v.ID)):=of_decide_eq_false hc465
 refine t_no (k:=15) rfl (yk 157 false rfl rfl hc465) rfl ?_
 refine t_no (k:=16) rfl (yk 157 false rfl rfl hc465) rfl ?_
 refine t_no (k:=17) rfl (yk 157 false rfl rfl hc465) rfl ?_
 refine t_no (k:=18) rfl (yk 157 false rfl rfl hc465) rfl ?_
 refine t_no (k:=19) rfl (yk 157 false rfl rfl hc465) rfl ?_
 refine t_st (k:=20) (v:=.bool false) rfl rfl (fun w hs => (x_pick_f (.tmp rfl (cVb hc465)) .const)) ?_
 refine t_nil ?_
 refine n_then (c_cond_f (t:=false) (.tmp rfl rfl) rfl ?_)
 refine c_skip (n_block (n_then (c_region (st (v:=.int .i64 ((j:Nat):Int)) (x_move (.tmp rfl hρ428)) ?_))))
 refine st (v:=.int .i64 (((j + 1):Nat):Int)) (x_add (k:=.i64) (a:=((j:Nat):Int)) (b:=1) (.tmp rfl rfl) .const ((w64 (by omega) (by omega)).trans (by omega))) ?_
 refine st (v:=.int .i64 (((j + 1):Nat):Int)) (x_assign (.tmp rfl rfl)) ?_
 refine c_nil ?_
 refine n_then ⟨_,_,rfl,?_,H458,(j + 1),hρ423,hρ424,hρ425,hρ426,hρ427,rfl,((((((hg78.trans hle371).trans hle387).trans hle395).trans hle411).trans hle439).trans hle459),(by omega),(see_next (p:=fun j => seeT tr i v j = true) hse ((seeT_is hx9 hx93).trans (see_ok hc400 (of_decide_eq_true hc403) (.inl hc406) hc418 (by have h9:=hc431; simp only [Bool.and_eq_false_iff,decide_eq_false_iff_not] at h9; rintro ⟨h8,h7⟩; rcases h9 with h9 | h9; omega; rw [h7] at h9; cases h9) (by rintro ⟨h8,h7,h6⟩; exact absurd h7 (of_decide_eq_false hc465))))),hs457.drop.drop,rfl⟩
 omega
 have hp454:¬ ((0:Int) < ((((nextT e5 v.ID).N):Nat):Int)):=of_decide_eq_false hc454
 refine t_no (k:=4) rfl (yk 146 false rfl rfl hc454) rfl ?_
 refine t_no (k:=5) rfl (yk 146 false rfl rfl hc454) rfl ?_
 refine t_no (k:=6) rfl (yk 146 false rfl rfl hc454) rfl ?_
 refine t_no (k:=7) rfl (yk 146 false rfl rfl hc454) rfl ?_
 refine t_no (k:=8) rfl (yk 146 false rfl rfl hc454) rfl ?_
 refine t_no (k:=9) rfl (yk 146 false rfl rfl hc454) rfl ?_
 refine t_no (k:=10) rfl (yk 146 false rfl rfl hc454) rfl ?_
 refine t_eff (k:=11) rfl ?_
 refine g_no (yk 146 false rfl rfl hc454) rfl ?_
 refine t_on (S':=fun u => St H438 u (obj g445 44 [.int .u64 ((((nextT e5 v.ID).N):Nat):Int),.int .i64 ((nextT e5 v.ID).P)]::obj g363 47 [.int .u64 ((((((hasT e89 v.ID).getD view0).ID).N):Nat):Int),.int .i64 ((((hasT e89 v.ID).getD view0).ID).P),.int .u16 (((((hasT e89 v.ID).getD view0).Set):Nat):Int)]::obj g17 47 [.int .u64 ((v.ID.N:Nat):Int),.int .i64 v.ID.P,.int .u16 ((v.Set:Nat):Int)]::L)) (fun u hu => hu) hs453 ?_
 refine t_no (k:=12) rfl (yk 146 false rfl rfl hc454) rfl ?_
 refine t_st (k:=13) (v:=.bool false) rfl rfl (fun w hs => (x_pick_f (.tmp rfl (cVb hc454)) .const)) ?_
 refine t_st (k:=14) (v:=.bool false) rfl rfl (fun w hs => (x_move (.tmp rfl rfl))) ?_
 refine t_no (k:=15) rfl (yl (dj:=157) (b:=false) rfl rfl rfl) rfl ?_
 refine t_no (k:=16) rfl (yl (dj:=157) (b:=false) rfl rfl rfl) rfl ?_
 refine t_no (k:=17) rfl (yl (dj:=157) (b:=false) rfl rfl rfl) rfl ?_
 refine t_no (k:=18) rfl (yl (dj:=157) (b:=false) rfl rfl rfl) rfl ?_
 refine t_no (k:=19) rfl (yl (dj:=157) (b:=false) rfl rfl rfl) rfl ?_
 refine t_st (k:=20) (v:=.bool false) rfl rfl (fun w hs => (x_pick_f (.tmp rfl rfl) .const)) ?_
 refine t_nil ?_
 refine n_then (c_cond_f (t:=false) (.tmp rfl rfl) rfl ?_)
 refine c_skip (n_block (n_then (c_region (st (v:=.int .i64 ((j:Nat):Int)) (x_move (.tmp rfl hρ428)) ?_))))
 refine st (v:=.int .i64 (((j + 1):Nat):Int)) (x_add (k:=.i64) (a:=((j:Nat):Int)) (b:=1) (.tmp rfl rfl) .const ((w64 (by omega) (by omega)).trans (by omega))) ?_
 refine st (v:=.int .i64 (((j + 1):Nat):Int)) (x_assign (.tmp rfl rfl)) ?_
 refine c_nil ?_
 refine n_then ⟨_,_,rfl,?_,H438,(j + 1),hρ423,hρ424,hρ425,hρ426,hρ427,rfl,(((((hg78.trans hle371).trans hle387).trans hle395).trans hle411).trans hle439),(by omega),(see_next (p:=fun j => seeT tr i v j = true) hse ((seeT_is hx9 hx93).trans (see_ok hc400 (of_decide_eq_true hc403) (.inl hc406) hc418 (by have h9:=hc431; simp only [Bool.and_eq_false_iff,decide_eq_false_iff_not] at h9; rintro ⟨h8,h7⟩; rcases h9 with h9 | h9; omega; rw [h7] at h9; cases h9) (by rintro ⟨h8,h7,h6⟩; omega)))),hs453.drop.drop,rfl⟩
 omega
 refine u_eff (k:=7) rfl ?_
 refine st_m (al44 (cs:=[.int .u64 0,.int .i64 0]) hs434 rfl) ?_
 rintro _ w469 ⟨g468,rfl,hs471⟩
 refine u_on (S':=fun u => St H410 u (obj g468 44 [.int .u64 0,.int .i64 0]::obj g363 47 [.int .u64 ((((((hasT e89 v.ID).getD view0).ID).N):Nat):Int),.int .i64 ((((hasT e89 v.ID).getD view0).ID).P),.int .u16 (((((hasT e89 v.ID).getD view0).Set):Nat):Int)]::obj g17 47 [.int .u64 ((v.ID.N:Nat):Int),.int .i64 v.ID.P,.int .u16 ((v.Set:Nat):Int)]::L)) (fun u hu => hu.drop) (fun u hu => hu.drop) hs471 ?_
 refine u_eff (k:=6) rfl ?_
 have hr472:kViewID.rep H410 v.ID [.int .u64 ((v.ID.N:Nat):Int),.int .i64 v.ID.P]:=⟨rfl,b1,⟨b2,b3⟩⟩
 refine st_c cb46 .func (evs2 (.tmp rfl rfl) (.tmp rfl rfl)) (next14_spec hs471 e5 (((((((hl16.mono hle27).mono hle38).mono hg78).mono hle371).mono hle387).mono hle395).mono hle411) v.ID hr472 ) ?_
 rintro e w473 ⟨H475,cs477,hle476,rfl,hr478,hs474⟩
 obtain ⟨rfl,b479,⟨b480,b481⟩⟩:=hr478
 refine ⟨_,rfl,?_⟩
 refine u_new (S':=fun u => St H475 u (obj g468 44 [.int .u64 0,.int .i64 0]::obj g363 47 [.int .u64 ((((((hasT e89 v.ID).getD view0).ID).N):Nat):Int),.int .i64 ((((hasT e89 v.ID).getD view0).ID).P),.int .u16 (((((hasT e89 v.ID).getD view0).Set):Nat):Int)]::obj g17 47 [.int .u64 ((v.ID.N:Nat):Int),.int .i64 v.ID.P,.int .u16 ((v.Set:Nat):Int)]::L)) rfl (fun u hu => hu.drop.weaken hle476) hs474 ?_
 refine u_eff (k:=8) rfl ?_
 refine st_m0 (sto44 (cs':=[.int .u64 ((((nextT e5 v.ID).N):Nat):Int),.int .i64 ((nextT e5 v.ID).P)]) (i:=0) hs474 (v:=.agg #[.int .u64 ((((nextT e5 v.ID).N):Nat):Int),.int .i64 ((nextT e5 v.ID).P)]) (.tmp rfl rfl) (.tmp rfl rfl) rfl (Nat.le_of_ble_eq_true rfl) (oneA rfl) rfl) ?_
 rintro w482 hs484
 refine u_new (S':=fun u => St H475 u (obj g468 44 [.int .u64 ((((nextT e5 v.ID).N):Nat):Int),.int .i64 ((nextT e5 v.ID).P)]::obj g363 47 [.int .u64 ((((((hasT e89 v.ID).getD view0).ID).N):Nat):Int),.int .i64 ((((hasT e89 v.ID).getD view0).ID).P),.int .u16 (((((hasT e89 v.ID).getD view0).Set):Nat):Int)]::obj g17 47 [.int .u64 ((v.ID.N:Nat):Int),.int .i64 v.ID.P,.int .u16 ((v.Set:Nat):Int)]::L)) rfl (fun u hu => hu.drop.weaken hle476) hs484 ?_
 refine u_nil ?_
 refine n_then (c_seq (t_region (L:=obj g468 44 [.int .u64 ((((nextT e5 v.ID).N):Nat):Int),.int .i64 ((nextT e5 v.ID).P)]::obj g363 47 [.int .u64 ((((((hasT e89 v.ID).getD view0).ID).N):Nat):Int),.int .i64 ((((hasT e89 v.ID).getD view0).ID).P),.int .u16 (((((hasT e89 v.ID).getD view0).Set):Nat):Int)]::obj g17 47 [.int .u64 ((v.ID.N:Nat):Int),.int .i64 v.ID.P,.int .u16 ((v.Set:Nat):Int)]::L) (L':=obj g468 44 [.int .u64 ((((nextT e5 v.ID).N):Nat):Int),.int .i64 ((nextT e5 v.ID).P)]::obj g363 47 [.int .u64 ((((((hasT e89 v.ID).getD view0).ID).N):Nat):Int),.int .i64 ((((hasT e89 v.ID).getD view0).ID).P),.int .u16 (((((hasT e89 v.ID).getD view0).Set):Nat):Int)]::obj g17 47 [.int .u64 ((v.ID.N:Nat):Int),.int .i64 v.ID.P,.int .u16 ((v.Set:Nat):Int)]::L) (Z:=[]) (F:=[]) (pl:=(.q 0 (.q 1 (.q 2 (.q 3 (.q 4 (.q 5 (.q 6 (.q 7 (.q 8 (.q 9 (.q 10 (.e 11 (.q 12 (.q 13 (.q 14 (.q 15 (.q 16 (.q 17 (.q 18 (.q 19 (.q 20 .done)))))))))))))))))))))) mixed hs484 (fun u hu => hu) (by kernel_rfl) ?_))
 intro w485 hs486
 refine t_st (k:=0) (v:=.pointer (some ⟨g468,0 + 0,none⟩)) rfl rfl (fun w hs => (fa44_0 (.tmp rfl rfl))) ?_
 refine t_st (k:=1) (v:=.int .u64 ((((nextT e5 v.ID).N):Nat):Int)) rfl rfl (fun w hs => (ld42 (.tmp rfl rfl) (hs.cell 0 rfl (0 + 0) rfl))) ?_
 refine t_st (k:=2) (v:=.bool (decide ((0:Int) < ((((nextT e5 v.ID).N):Nat):Int)))) rfl rfl (fun w hs => (x_gtr (k:=.u64) (a:=((((nextT e5 v.ID).N):Nat):Int)) (b:=0) (.tmp rfl rfl) .const)) ?_
 refine t_st (k:=3) (v:=.bool (decide ((0:Int) < ((((nextT e5 v.ID).N):Nat):Int)))) rfl rfl (fun w hs => (x_move (.tmp rfl rfl))) ?_
 rcases Bool.eq_false_or_eq_true (decide ((0:Int) < ((((nextT e5 v.ID).N):Nat):Int))) with hc487 | hc487
 have hp487:(0:Int) < ((((nextT e5 v.ID).N):Nat):Int):=of_decide_eq_true hc487
 refine t_yes (k:=4) (v:=.agg #[.int .u64 ((((nextT e5 v.ID).N):Nat):Int),.int .i64 ((nextT e5 v.ID).P)]) rfl rfl (yk 146 true rfl rfl hc487) (fun w hs => (ld44 (cs:=[.int .u64 ((((nextT e5 v.ID).N):Nat):Int),.int .i64 ((nextT e5 v.ID).P)]) (.tmp rfl rfl) (hs.at_ 0 rfl (0) rfl) rfl)) ?_
 refine t_yes (k:=5) (v:=.slice A_tr n_tr c_tr) rfl rfl (yk 146 true rfl rfl hc487) (fun w hs => (x_move (.tmp rfl hρ423))) ?_
 refine t_yes (k:=6) (v:=.int .i64 ((j:Nat):Int)) rfl rfl (yk 146 true rfl rfl hc487) (fun w hs => (x_move (.tmp rfl hρ428))) ?_
 refine t_yes (k:=7) (v:=.pointer (some ⟨b90,(o91 + j * 1),none⟩)) rfl rfl (yk 146 true rfl rfl hc487) (fun w hs => (ixo36 (.tmp rfl rfl) hA94 (i:=((j:Nat):Int)) (.tmp rfl rfl) (by omega) (by omega) (by omega))) ?_
 refine t_yes (k:=8) (v:=.slice A97 n98 c99) rfl rfl (yk 146 true rfl rfl hc487) (fun w hs => (ld41 (.tmp rfl rfl) ((hat96x (((((hs.weaken hle476).weaken hle411).weaken hle395).weaken hle387).weaken hle371)).cell 0 rfl))) ?_
 refine t_yes (k:=9) (v:=.pointer (some ⟨g17,0 + 0,none⟩)) rfl rfl (yk 146 true rfl rfl hc487) (fun w hs => (fa47_0 (.tmp rfl hρ425))) ?_
 refine t_yes (k:=10) (v:=.agg #[.int .u64 ((v.ID.N:Nat):Int),.int .i64 v.ID.P]) rfl rfl (yk 146 true rfl rfl hc487) (fun w hs => (ld44 (cs:=[.int .u64 ((v.ID.N:Nat):Int),.int .i64 v.ID.P]) (.tmp rfl rfl) (hs.at_ 2 rfl (0 + 0) rfl) rfl)) ?_
 refine t_eff (k:=11) rfl ?_
 refine g_yes (yk 146 true rfl rfl hc487) ?_
 have hr488:kViewID.rep H475 v.ID [.int .u64 ((v.ID.N:Nat):Int),.int .i64 v.ID.P]:=⟨rfl,b1,⟨b2,b3⟩⟩
 refine st_c cb46 .func (evs2 (.tmp rfl rfl) (.tmp rfl rfl)) (next14_spec hs486 e89 (((((hl100.mono hle371).mono hle387).mono hle395).mono hle411).mono hle476) v.ID hr488 ) ?_
 rintro e w489 ⟨H491,cs493,hle492,rfl,hr494,hs490⟩
 obtain ⟨rfl,b495,⟨b496,b497⟩⟩:=hr494
 refine ⟨_,rfl,?_⟩
 refine t_on (S':=fun u => St H491 u (obj g468 44 [.int .u64 ((((nextT e5 v.ID).N):Nat):Int),.int .i64 ((nextT e5 v.ID).P)]::obj g363 47 [.int .u64 ((((((hasT e89 v.ID).getD view0).ID).N):Nat):Int),.int .i64 ((((hasT e89 v.ID).getD view0).ID).P),.int .u16 (((((hasT e89 v.ID).getD view0).Set):Nat):Int)]::obj g17 47 [.int .u64 ((v.ID.N:Nat):Int),.int .i64 v.ID.P,.int .u16 ((v.Set:Nat):Int)]::L)) (fun u hu => hu.weaken hle492) hs490 ?_
 refine t_yes (k:=12) (v:=.bool ((((((nextT e5 v.ID).N):Nat):Int) == ((((nextT e89 v.ID).N):Nat):Int)) && ((((nextT e5 v.ID).P) == ((nextT e89 v.ID).P)) && true))) rfl rfl (yk 146 true rfl rfl hc487) (fun w hs => (x_eqlA eqg44 (.tmp rfl rfl) (.tmp rfl rfl) (fun d => eqs44 (d + 98) _ ((((nextT e5 v.ID).N):Nat):Int) ((((nextT e89 v.ID).N):Nat):Int) ((nextT e5 v.ID).P) ((nextT e89 v.ID).P)))) ?_
 refine t_st (k:=13) (v:=.bool (decide ((nextT e5 v.ID) = (nextT e89 v.ID)))) rfl rfl (fun w hs => (x_pick_t (.tmp rfl (cVb hc487)) (.tmp rfl (cVb (GViewID.beq_dec (nextT e5 v.ID) (nextT e89 v.ID)))))) ?_
 refine t_st (k:=14) (v:=.bool (decide ((nextT e5 v.ID) = (nextT e89 v.ID)))) rfl rfl (fun w hs => (x_move (.tmp rfl rfl))) ?_
 rcases Bool.eq_false_or_eq_true (decide ((nextT e5 v.ID) = (nextT e89 v.ID))) with hc498 | hc498
 have hp498:(nextT e5 v.ID) = (nextT e89 v.ID):=of_decide_eq_true hc498
 refine t_yes (k:=15) (v:=.slice A28 n29 c30) rfl rfl (yk 157 true rfl rfl hc498) (fun w hs => (x_move (.tmp rfl hρ426))) ?_
 refine t_yes (k:=16) (v:=.int .i64 ((n29:Nat):Int)) rfl rfl (yk 157 true rfl rfl hc498) (fun w hs => (x_len (n:=n29) Tryd.underlying25 (.tmp rfl rfl))) ?_
 refine t_yes (k:=17) (v:=.slice A388 n389 c390) rfl rfl (yk 157 true rfl rfl hc498) (fun w hs => (x_move (.tmp rfl hρ429))) ?_
 refine t_yes (k:=18) (v:=.int .i64 ((n389:Nat):Int)) rfl rfl (yk 157 true rfl rfl hc498) (fun w hs => (x_len (n:=n389) Tryd.underlying25 (.tmp rfl rfl))) ?_
 refine t_yes (k:=19) (v:=.bool (decide ((((n29:Nat):Int):Int) ≠ ((n389:Nat):Int)))) rfl rfl (yk 157 true rfl rfl hc498) (fun w hs => (x_neq (k:=.i64) (a:=((n29:Nat):Int)) (b:=((n389:Nat):Int)) (.tmp rfl rfl) (.tmp rfl rfl))) ?_
 refine t_st (k:=20) (v:=.bool (decide ((((n29:Nat):Int):Int) ≠ ((n389:Nat):Int)))) rfl rfl (fun w hs => (x_pick_t (.tmp rfl (cVb hc498)) (.tmp rfl rfl))) ?_
 refine t_nil ?_
 refine n_then ?_
 rcases Bool.eq_false_or_eq_true (decide ((((n29:Nat):Int):Int) ≠ ((n389:Nat):Int))) with hc499 | hc499
 have hp499:(((n29:Nat):Int):Int) ≠ ((n389:Nat):Int):=of_decide_eq_true hc499
 refine c_cond_t (t:=true) (.tmp rfl (cVb hc499)) rfl ?_
 refine c_seq (c_region (st (v:=.bool false) (x_assign .const) ?_))
 refine c_nil (n_then (c_ret (r_block (r_then (r_then (r_block (r_then (leave_ret (res_one (v:=.bool false) rfl (.mk rfl rfl)) ?_))))))))
 have hans500:inviewT tr i v = false:=inview_no2 (j:=j) (by omega) ((seeT_is hx9 hx93).trans (see_bad5 hc400 (by omega) (of_decide_eq_true hc498) (by omega)))
 rw [hans500]
 exact ⟨H491,((((((((hle27.trans hle38).trans hg78).trans hle371).trans hle387).trans hle395).trans hle411).trans hle476).trans hle492),rfl,hs490.drop.drop.drop⟩
 have hp499:¬ ((((n29:Nat):Int):Int) ≠ ((n389:Nat):Int)):=of_decide_eq_false hc499
 refine c_cond_f (t:=false) (.tmp rfl (cVb hc499)) rfl ?_
 refine c_skip (n_block (n_then (c_region (st (v:=.int .i64 ((j:Nat):Int)) (x_move (.tmp rfl hρ428)) ?_))))
 refine st (v:=.int .i64 (((j + 1):Nat):Int)) (x_add (k:=.i64) (a:=((j:Nat):Int)) (b:=1) (.tmp rfl rfl) .const ((w64 (by omega) (by omega)).trans (by omega))) ?_
 refine st (v:=.int .i64 (((j + 1):Nat):Int)) (x_assign (.tmp rfl rfl)) ?_
 refine c_nil ?_
 refine n_then ⟨_,_,rfl,?_,H491,(j + 1),hρ423,hρ424,hρ425,hρ426,hρ427,rfl,((((((hg78.trans hle371).trans hle387).trans hle395).trans hle411).trans hle476).trans hle492),(by omega),(see_next (p:=fun j => seeT tr i v j = true) hse ((seeT_is hx9 hx93).trans (see_ok hc400 (of_decide_eq_true hc403) (.inl hc406) hc418 (by have h9:=hc431; simp only [Bool.and_eq_false_iff,decide_eq_false_iff_not] at h9; rintro ⟨h8,h7⟩; rcases h9 with h9 | h9; omega; rw [h7] at h9; cases h9) (by rintro ⟨h8,h7,h6⟩; omega)))),hs490.drop.drop,rfl⟩
 omega
 have hp498:¬ ((nextT e5 v.ID) = (nextT e89 v.ID)):=of_decide_eq_false hc498
 refine t_no (k:=15) rfl (yk 157 false rfl rfl hc498) rfl ?_
 refine t_no (k:=16) rfl (yk 157 false rfl rfl hc498) rfl ?_
 refine t_no (k:=17) rfl (yk 157 false rfl rfl hc498) rfl ?_
 refine t_no (k:=18) rfl (yk 157 false rfl rfl hc498) rfl ?_
 refine t_no (k:=19) rfl (yk 157 false rfl rfl hc498) rfl ?_
 refine t_st (k:=20) (v:=.bool false) rfl rfl (fun w hs => (x_pick_f (.tmp rfl (cVb hc498)) .const)) ?_
 refine t_nil ?_
 refine n_then (c_cond_f (t:=false) (.tmp rfl rfl) rfl ?_)
 refine c_skip (n_block (n_then (c_region (st (v:=.int .i64 ((j:Nat):Int)) (x_move (.tmp rfl hρ428)) ?_))))
 refine st (v:=.int .i64 (((j + 1):Nat):Int)) (x_add (k:=.i64) (a:=((j:Nat):Int)) (b:=1) (.tmp rfl rfl) .const ((w64 (by omega) (by omega)).trans (by omega))) ?_
 refine st (v:=.int .i64 (((j + 1):Nat):Int)) (x_assign (.tmp rfl rfl)) ?_
 refine c_nil ?_
 refine n_then ⟨_,_,rfl,?_,H491,(j + 1),hρ423,hρ424,hρ425,hρ426,hρ427,rfl,((((((hg78.trans hle371).trans hle387).trans hle395).trans hle411).trans hle476).trans hle492),(by omega),(see_next (p:=fun j => seeT tr i v j = true) hse ((seeT_is hx9 hx93).trans (see_ok hc400 (of_decide_eq_true hc403) (.inl hc406) hc418 (by have h9:=hc431; simp only [Bool.and_eq_false_iff,decide_eq_false_iff_not] at h9; rintro ⟨h8,h7⟩; rcases h9 with h9 | h9; omega; rw [h7] at h9; cases h9) (by rintro ⟨h8,h7,h6⟩; exact absurd h7 (of_decide_eq_false hc498))))),hs490.drop.drop,rfl⟩
 omega
 have hp487:¬ ((0:Int) < ((((nextT e5 v.ID).N):Nat):Int)):=of_decide_eq_false hc487
 refine t_no (k:=4) rfl (yk 146 false rfl rfl hc487) rfl ?_
 refine t_no (k:=5) rfl (yk 146 false rfl rfl hc487) rfl ?_
 refine t_no (k:=6) rfl (yk 146 false rfl rfl hc487) rfl ?_
 refine t_no (k:=7) rfl (yk 146 false rfl rfl hc487) rfl ?_
 refine t_no (k:=8) rfl (yk 146 false rfl rfl hc487) rfl ?_
 refine t_no (k:=9) rfl (yk 146 false rfl rfl hc487) rfl ?_
 refine t_no (k:=10) rfl (yk 146 false rfl rfl hc487) rfl ?_
 refine t_eff (k:=11) rfl ?_
 refine g_no (yk 146 false rfl rfl hc487) rfl ?_
 refine t_on (S':=fun u => St H475 u (obj g468 44 [.int .u64 ((((nextT e5 v.ID).N):Nat):Int),.int .i64 ((nextT e5 v.ID).P)]::obj g363 47 [.int .u64 ((((((hasT e89 v.ID).getD view0).ID).N):Nat):Int),.int .i64 ((((hasT e89 v.ID).getD view0).ID).P),.int .u16 (((((hasT e89 v.ID).getD view0).Set):Nat):Int)]::obj g17 47 [.int .u64 ((v.ID.N:Nat):Int),.int .i64 v.ID.P,.int .u16 ((v.Set:Nat):Int)]::L)) (fun u hu => hu) hs486 ?_
 refine t_no (k:=12) rfl (yk 146 false rfl rfl hc487) rfl ?_
 refine t_st (k:=13) (v:=.bool false) rfl rfl (fun w hs => (x_pick_f (.tmp rfl (cVb hc487)) .const)) ?_
 refine t_st (k:=14) (v:=.bool false) rfl rfl (fun w hs => (x_move (.tmp rfl rfl))) ?_
 refine t_no (k:=15) rfl (yl (dj:=157) (b:=false) rfl rfl rfl) rfl ?_
 refine t_no (k:=16) rfl (yl (dj:=157) (b:=false) rfl rfl rfl) rfl ?_
 refine t_no (k:=17) rfl (yl (dj:=157) (b:=false) rfl rfl rfl) rfl ?_
 refine t_no (k:=18) rfl (yl (dj:=157) (b:=false) rfl rfl rfl) rfl ?_
 refine t_no (k:=19) rfl (yl (dj:=157) (b:=false) rfl rfl rfl) rfl ?_
 refine t_st (k:=20) (v:=.bool false) rfl rfl (fun w hs => (x_pick_f (.tmp rfl rfl) .const)) ?_
 refine t_nil ?_
 refine n_then (c_cond_f (t:=false) (.tmp rfl rfl) rfl ?_)
 refine c_skip (n_block (n_then (c_region (st (v:=.int .i64 ((j:Nat):Int)) (x_move (.tmp rfl hρ428)) ?_))))
 refine st (v:=.int .i64 (((j + 1):Nat):Int)) (x_add (k:=.i64) (a:=((j:Nat):Int)) (b:=1) (.tmp rfl rfl) .const ((w64 (by omega) (by omega)).trans (by omega))) ?_
 refine st (v:=.int .i64 (((j + 1):Nat):Int)) (x_assign (.tmp rfl rfl)) ?_
 refine c_nil ?_
 refine n_then ⟨_,_,rfl,?_,H475,(j + 1),hρ423,hρ424,hρ425,hρ426,hρ427,rfl,(((((hg78.trans hle371).trans hle387).trans hle395).trans hle411).trans hle476),(by omega),(see_next (p:=fun j => seeT tr i v j = true) hse ((seeT_is hx9 hx93).trans (see_ok hc400 (of_decide_eq_true hc403) (.inl hc406) hc418 (by have h9:=hc431; simp only [Bool.and_eq_false_iff,decide_eq_false_iff_not] at h9; rintro ⟨h8,h7⟩; rcases h9 with h9 | h9; omega; rw [h7] at h9; cases h9) (by rintro ⟨h8,h7,h6⟩; omega)))),hs486.drop.drop,rfl⟩
 omega
 refine c_cond_t (t:=true) (.tmp rfl (cVb (by rw [hc418]; rfl))) rfl ?_
 refine c_seq (c_region (st (v:=.bool false) (x_assign .const) ?_))
 refine c_nil (n_then (c_ret (r_then (r_block (r_then (r_then (r_block (r_then (leave_ret (res_one (v:=.bool false) rfl (.mk rfl rfl)) ?_)))))))))
 have hans501:inviewT tr i v = false:=inview_no2 (j:=j) (by omega) ((seeT_is hx9 hx93).trans (see_bad3 hc400 hc418))
 rw [hans501]
 exact ⟨H410,((((((hle27.trans hle38).trans hg78).trans hle371).trans hle387).trans hle395).trans hle411),rfl,hs417.drop.drop⟩
 refine t_yes (k:=9) (v:=.slice A388 n389 c390) rfl rfl (yl (dj:=106) (b:=true) rfl rfl (cVb (by rw [hc406]; rfl))) (fun w hs => (x_move (.tmp rfl rfl))) ?_
 refine t_yes (k:=10) (v:=.slice A28 n29 c30) rfl rfl (yl (dj:=106) (b:=true) rfl rfl (cVb (by rw [hc406]; rfl))) (fun w hs => (x_move (.tmp rfl hρ82))) ?_
 refine t_eff (k:=11) rfl ?_
 refine g_yes (yl (dj:=106) (b:=true) rfl rfl (cVb (by rw [hc406]; rfl))) ?_
 refine st_c cb42 .func (evs2 (.tmp rfl rfl) (.tmp rfl rfl)) (begins14_spec hs405 (itemsT e89 ((j:Nat):Int) 3 v.ID) (sp391.mono hle395) (itemsT e5 ((i:Nat):Int) 3 v.ID) (((((sp31.mono hle38).mono hg78).mono hle371).mono hle387).mono hle395) ) ?_
 rintro e w502 ⟨rfl,hs503⟩
 refine ⟨_,rfl,?_⟩
 refine t_new (S':=fun u => St H394 u (obj g363 47 [.int .u64 ((((((hasT e89 v.ID).getD view0).ID).N):Nat):Int),.int .i64 ((((hasT e89 v.ID).getD view0).ID).P),.int .u16 (((((hasT e89 v.ID).getD view0).Set):Nat):Int)]::obj g17 47 [.int .u64 ((v.ID.N:Nat):Int),.int .i64 v.ID.P,.int .u16 ((v.Set:Nat):Int)]::L)) rfl hs503 ?_
 refine t_yes (k:=12) (v:=.bool (!(beginsT (itemsT e89 ((j:Nat):Int) 3 v.ID) (itemsT e5 ((i:Nat):Int) 3 v.ID)))) rfl rfl (yl (dj:=106) (b:=true) rfl rfl (cVb (by rw [hc406]; rfl))) (fun w hs => (x_not (.tmp rfl rfl))) ?_
 refine t_yes (k:=13) (v:=.bool (!(beginsT (itemsT e89 ((j:Nat):Int) 3 v.ID) (itemsT e5 ((i:Nat):Int) 3 v.ID)))) rfl rfl (yl (dj:=101) (b:=false) rfl rfl (cVb (by rw [hc403]; rfl))) (fun w hs => (x_pick_t (.tmp rfl (cVb (by rw [hc406]; rfl))) (.tmp rfl rfl))) ?_
 refine t_st (k:=14) (v:=.bool (!(beginsT (itemsT e89 ((j:Nat):Int) 3 v.ID) (itemsT e5 ((i:Nat):Int) 3 v.ID)))) rfl rfl (fun w hs => (x_pick_f (.tmp rfl (cVb (by rw [hc403]; rfl))) (.tmp rfl rfl))) ?_
 refine t_st (k:=15) (v:=.bool (!(beginsT (itemsT e89 ((j:Nat):Int) 3 v.ID) (itemsT e5 ((i:Nat):Int) 3 v.ID)))) rfl rfl (fun w hs => (x_move (.tmp rfl rfl))) ?_
 rcases Bool.eq_false_or_eq_true (beginsT (itemsT e89 ((j:Nat):Int) 3 v.ID) (itemsT e5 ((i:Nat):Int) 3 v.ID)) with hc504 | hc504
 refine t_yes (k:=16) (v:=.slice A396 n397 c398) rfl rfl (yl (dj:=113) (b:=false) rfl rfl (cVb (by rw [hc504]; rfl))) (fun w hs => (x_move (.tmp rfl rfl))) ?_
 refine t_yes (k:=17) (v:=.slice A_tr n_tr c_tr) rfl rfl (yl (dj:=113) (b:=false) rfl rfl (cVb (by rw [hc504]; rfl))) (fun w hs => (x_move (.tmp rfl hρ79))) ?_
 refine t_yes (k:=18) (v:=.int .i64 ((j:Nat):Int)) rfl rfl (yl (dj:=113) (b:=false) rfl rfl (cVb (by rw [hc504]; rfl))) (fun w hs => (x_move (.tmp rfl hρ84))) ?_
 refine t_yes (k:=19) (v:=.pointer (some ⟨b90,(o91 + j * 1),none⟩)) rfl rfl (yl (dj:=113) (b:=false) rfl rfl (cVb (by rw [hc504]; rfl))) (fun w hs => (ixo36 (.tmp rfl rfl) hA94 (i:=((j:Nat):Int)) (.tmp rfl rfl) (by omega) (by omega) (by omega))) ?_
 refine t_yes (k:=20) (v:=.slice A97 n98 c99) rfl rfl (yl (dj:=113) (b:=false) rfl rfl (cVb (by rw [hc504]; rfl))) (fun w hs => (ld41 (.tmp rfl rfl) ((hat96x (((hs.weaken hle395).weaken hle387).weaken hle371)).cell 0 rfl))) ?_
 refine t_yes (k:=21) (v:=.int .i64 ((j:Nat):Int)) rfl rfl (yl (dj:=113) (b:=false) rfl rfl (cVb (by rw [hc504]; rfl))) (fun w hs => (x_move (.tmp rfl hρ84))) ?_
 refine t_yes (k:=22) (v:=.pointer (some ⟨g17,0 + 0,none⟩)) rfl rfl (yl (dj:=113) (b:=false) rfl rfl (cVb (by rw [hc504]; rfl))) (fun w hs => (fa47_0 (.tmp rfl hρ81))) ?_
 refine t_yes (k:=23) (v:=.agg #[.int .u64 ((v.ID.N:Nat):Int),.int .i64 v.ID.P]) rfl rfl (yl (dj:=113) (b:=false) rfl rfl (cVb (by rw [hc504]; rfl))) (fun w hs => (ld44 (cs:=[.int .u64 ((v.ID.N:Nat):Int),.int .i64 v.ID.P]) (.tmp rfl rfl) (hs.at_ 1 rfl (0 + 0) rfl) rfl)) ?_
 refine t_eff (k:=24) rfl ?_
 refine g_yes (yl (dj:=113) (b:=false) rfl rfl (cVb (by rw [hc504]; rfl))) ?_
 have hr505:kViewID.rep H394 v.ID [.int .u64 ((v.ID.N:Nat):Int),.int .i64 v.ID.P]:=⟨rfl,b1,⟨b2,b3⟩⟩
 refine st_c cb43 .func (evs4 (.tmp rfl rfl) (.tmp rfl rfl) .const (.tmp rfl rfl)) (items14_spec hs503 e89 (((hl100.mono hle371).mono hle387).mono hle395) ((j:Nat):Int) ⟨by omega,by omega⟩ 2 (by decide) v.ID hr505 ) ?_
 rintro e w506 ⟨H508,A510,n511,c512,hle509,rfl,sp513,hs507⟩
 have:=sp513.len; have:=sp513.le; have:n511 * 32 ≤ 140737488351232:=sp513.bnd
 refine ⟨_,rfl,?_⟩
 refine t_on (S':=fun u => St H508 u (obj g363 47 [.int .u64 ((((((hasT e89 v.ID).getD view0).ID).N):Nat):Int),.int .i64 ((((hasT e89 v.ID).getD view0).ID).P),.int .u16 (((((hasT e89 v.ID).getD view0).Set):Nat):Int)]::obj g17 47 [.int .u64 ((v.ID.N:Nat):Int),.int .i64 v.ID.P,.int .u16 ((v.Set:Nat):Int)]::L)) (fun u hu => hu.weaken hle509) hs507 ?_
 refine t_eff (k:=25) rfl ?_
 refine g_yes (yl (dj:=113) (b:=false) rfl rfl (cVb (by rw [hc504]; rfl))) ?_
 refine st_c cb42 .func (evs2 (.tmp rfl rfl) (.tmp rfl rfl)) (begins14_spec hs507 (fromT (itemsT e5 ((i:Nat):Int) 3 v.ID) ((j:Nat):Int)) (sp399.mono hle509) (itemsT e89 ((j:Nat):Int) 2 v.ID) sp513 ) ?_
 rintro e w514 ⟨rfl,hs515⟩
 refine ⟨_,rfl,?_⟩
 refine t_on (S':=fun u => St H508 u (obj g363 47 [.int .u64 ((((((hasT e89 v.ID).getD view0).ID).N):Nat):Int),.int .i64 ((((hasT e89 v.ID).getD view0).ID).P),.int .u16 (((((hasT e89 v.ID).getD view0).Set):Nat):Int)]::obj g17 47 [.int .u64 ((v.ID.N:Nat):Int),.int .i64 v.ID.P,.int .u16 ((v.Set:Nat):Int)]::L)) (fun u hu => hu) hs515 ?_
 refine t_yes (k:=26) (v:=.bool (!(beginsT (fromT (itemsT e5 ((i:Nat):Int) 3 v.ID) ((j:Nat):Int)) (itemsT e89 ((j:Nat):Int) 2 v.ID)))) rfl rfl (yl (dj:=113) (b:=false) rfl rfl (cVb (by rw [hc504]; rfl))) (fun w hs => (x_not (.tmp rfl rfl))) ?_
 refine t_st (k:=27) (v:=.bool (!(beginsT (fromT (itemsT e5 ((i:Nat):Int) 3 v.ID) ((j:Nat):Int)) (itemsT e89 ((j:Nat):Int) 2 v.ID)))) rfl rfl (fun w hs => (x_pick_f (.tmp rfl (cVb (by rw [hc504]; rfl))) (.tmp rfl rfl))) ?_
 refine t_nil ?_
 refine n_then ?_
 rcases Bool.eq_false_or_eq_true (beginsT (fromT (itemsT e5 ((i:Nat):Int) 3 v.ID) ((j:Nat):Int)) (itemsT e89 ((j:Nat):Int) 2 v.ID)) with hc516 | hc516
 refine c_cond_f (t:=false) (.tmp rfl (cVb (by rw [hc516]; rfl))) rfl ?_
 refine c_skip (n_then (c_seq (c_seq (c_region (st (v:=.int .i64 ((n40:Nat):Int)) (x_move (.tmp rfl hρ83)) ?_)))))
 refine st (v:=.slice A388 n389 c390) (x_move (.tmp rfl rfl)) ?_
 refine st (v:=.int .i64 ((n389:Nat):Int)) (x_len (n:=n389) Tryd.underlying25 (.tmp rfl rfl)) ?_
 refine st (v:=.bool (decide ((((n389:Nat):Int):Int) < ((n40:Nat):Int)))) (x_gtr (k:=.i64) (a:=((n40:Nat):Int)) (b:=((n389:Nat):Int)) (.tmp rfl rfl) (.tmp rfl rfl)) ?_
 refine st (v:=.bool (decide ((((n389:Nat):Int):Int) < ((n40:Nat):Int)))) (x_move (.tmp rfl rfl)) ?_
 refine jw 5 (fun ρ w => ρ 135 = .bool ((decide ((((n389:Nat):Int):Int) < ((n40:Nat):Int))) && (has v.Set ((j:Nat):Int)))∧ρ 0 = .slice A_tr n_tr c_tr∧ρ 1 = .int .i64 ((i:Nat):Int)∧ρ 5 = .pointer (some ⟨g17,0,none⟩)∧ρ 7 = .slice A28 n29 c30∧ρ 8 = .int .i64 ((n40:Nat):Int)∧ρ 10 = .int .i64 ((j:Nat):Int)∧ρ 13 = .slice A388 n389 c390∧St H508 w (obj g363 47 [.int .u64 ((((((hasT e89 v.ID).getD view0).ID).N):Nat):Int),.int .i64 ((((hasT e89 v.ID).getD view0).ID).P),.int .u16 (((((hasT e89 v.ID).getD view0).Set):Nat):Int)]::obj g17 47 [.int .u64 ((v.ID.N:Nat):Int),.int .i64 v.ID.P,.int .u16 ((v.Set:Nat):Int)]::L)) ?_ ?_
 rcases Bool.eq_false_or_eq_true (decide ((((n389:Nat):Int):Int) < ((n40:Nat):Int))) with hc517 | hc517
 have hp517:(((n389:Nat):Int):Int) < ((n40:Nat):Int):=of_decide_eq_true hc517
 refine g_yes (yk 130 true rfl rfl hc517) ?_
 refine st (v:=.pointer (some ⟨g17,0 + 2,none⟩)) (fa47_1 (.tmp rfl hρ81)) ?_
 refine g_yes (yk 130 true rfl rfl hc517) ?_
 refine st (v:=.int .u16 ((v.Set:Nat):Int)) (ld45 (.tmp rfl rfl) (hs515.cell 1 rfl (0 + 2) rfl)) ?_
 refine g_yes (yk 130 true rfl rfl hc517) ?_
 refine st (v:=.int .i64 ((j:Nat):Int)) (x_move (.tmp rfl hρ84)) ?_
 refine g_yes (yk 130 true rfl rfl hc517) ?_
 refine st_c cb40 .func (evs2 (.tmp rfl rfl) (.tmp rfl rfl)) (rhas_spec hs515 v.Set ((j:Nat):Int) b4 (by omega)) ?_
 rintro e w518 ⟨rfl,hs519⟩
 refine ⟨_,rfl,?_⟩
 refine st (v:=.bool (has v.Set ((j:Nat):Int))) (x_pick_t (.tmp rfl (cVb hc517)) (.tmp rfl rfl)) ?_
 exact jw_end ⟨(cVb (jand_t hc517)),hρ79,hρ80,hρ81,hρ82,hρ83,hρ84,rfl,hs519⟩
 have hp517:¬ ((((n389:Nat):Int):Int) < ((n40:Nat):Int)):=of_decide_eq_false hc517
 refine g_no (yk 130 false rfl rfl hc517) rfl ?_
 refine g_no (yk 130 false rfl rfl hc517) rfl ?_
 refine g_no (yk 130 false rfl rfl hc517) rfl ?_
 refine g_no (yk 130 false rfl rfl hc517) rfl ?_
 refine st (v:=.bool false) (x_pick_f (.tmp rfl (cVb hc517)) .const) ?_
 exact jw_end ⟨(cVb (jand_f hc517)),hρ79,hρ80,hρ81,hρ82,hρ83,hρ84,rfl,hs515⟩
 rintro ρ w ⟨hρ520,hρ521,hρ522,hρ523,hρ524,hρ525,hρ526,hρ527,hs528⟩
 refine c_nil (n_then ?_)
 rcases Bool.eq_false_or_eq_true ((decide ((((n389:Nat):Int):Int) < ((n40:Nat):Int))) && (has v.Set ((j:Nat):Int))) with hc529 | hc529
 have hp529:((((n389:Nat):Int):Int) < ((n40:Nat):Int))∧((has v.Set ((j:Nat):Int)) = true):=((J_and decide_eq_true_iff Iff.rfl)).1 hc529
 refine c_cond_t (t:=true) (.tmp rfl (hρ520.trans (cVb hc529))) rfl ?_
 refine c_seq (c_region (st (v:=.bool false) (x_assign .const) ?_))
 refine c_nil (n_then (c_ret (r_then (r_block (r_then (r_then (r_block (r_then (leave_ret (res_one (v:=.bool false) rfl (.mk rfl rfl)) ?_)))))))))
 have hans530:inviewT tr i v = false:=inview_no2 (j:=j) (by omega) ((seeT_is hx9 hx93).trans (see_bad4 hc400 (by have h9:=hc529; simp only [Bool.and_eq_true,decide_eq_true_eq] at h9; have:=h9.1; omega) (by have h9:=hc529; simp only [Bool.and_eq_true,decide_eq_true_eq] at h9; exact h9.2)))
 rw [hans530]
 exact ⟨H508,((((((hle27.trans hle38).trans hg78).trans hle371).trans hle387).trans hle395).trans hle509),rfl,hs528.drop.drop⟩
 have hp529:¬ (((((n389:Nat):Int):Int) < ((n40:Nat):Int))∧((has v.Set ((j:Nat):Int)) = true)):=J_no (J_and decide_eq_true_iff Iff.rfl) hc529
 refine c_cond_f (t:=false) (.tmp rfl (hρ520.trans (cVb hc529))) rfl ?_
 refine c_skip (n_then (c_seq (u_region (L:=obj g363 47 [.int .u64 ((((((hasT e89 v.ID).getD view0).ID).N):Nat):Int),.int .i64 ((((hasT e89 v.ID).getD view0).ID).P),.int .u16 (((((hasT e89 v.ID).getD view0).Set):Nat):Int)]::obj g17 47 [.int .u64 ((v.ID.N:Nat):Int),.int .i64 v.ID.P,.int .u16 ((v.Set:Nat):Int)]::L) (L':=obj g363 47 [.int .u64 ((((((hasT e89 v.ID).getD view0).ID).N):Nat):Int),.int .i64 ((((hasT e89 v.ID).getD view0).ID).P),.int .u16 (((((hasT e89 v.ID).getD view0).Set):Nat):Int)]::obj g17 47 [.int .u64 ((v.ID.N:Nat):Int),.int .i64 v.ID.P,.int .u16 ((v.Set:Nat):Int)]::L) (Z:=[6,8]) (F:=[]) (Lw:=obj g363 47 [.int .u64 ((((((hasT e89 v.ID).getD view0).ID).N):Nat):Int),.int .i64 ((((hasT e89 v.ID).getD view0).ID).P),.int .u16 (((((hasT e89 v.ID).getD view0).Set):Nat):Int)]::obj g17 47 [.int .u64 ((v.ID.N:Nat):Int),.int .i64 v.ID.P,.int .u16 ((v.Set:Nat):Int)]::L) (pl:=(.q 0 (.q 1 (.q 2 (.q 3 (.q 4 (.q 5 (.two 6 (.e 7 (.e 8 .done)) 7 (.e 6 (.e 8 .done)))))))))) mixed hs528 (fun u hu => hu) (fun u hu => hu) (by kernel_rfl) ?_)))
 intro w531 hs532
 refine u_st (k:=0) (v:=.slice A_tr n_tr c_tr) rfl rfl (fun w hs => (x_move (.tmp rfl hρ521))) ?_
 refine u_st (k:=1) (v:=.int .i64 ((i:Nat):Int)) rfl rfl (fun w hs => (x_move (.tmp rfl hρ522))) ?_
 refine u_st (k:=2) (v:=.pointer (some ⟨b6,(o7 + i * 1),none⟩)) rfl rfl (fun w hs => (ixo36 (.tmp rfl rfl) hA10 (i:=((i:Nat):Int)) (.tmp rfl rfl) (by omega) (by omega) (by omega))) ?_
 refine u_st (k:=3) (v:=.slice A13 n14 c15) rfl rfl (fun w hs => (ld41 (.tmp rfl rfl) ((hat12x (((((((hs.weaken hle509).weaken hle395).weaken hle387).weaken hle371).weaken hg78).weaken hle38).weaken hle27)).cell 0 rfl))) ?_
 refine u_st (k:=4) (v:=.pointer (some ⟨g17,0 + 0,none⟩)) rfl rfl (fun w hs => (fa47_0 (.tmp rfl hρ523))) ?_
 refine u_st (k:=5) (v:=.agg #[.int .u64 ((v.ID.N:Nat):Int),.int .i64 v.ID.P]) rfl rfl (fun w hs => (ld44 (cs:=[.int .u64 ((v.ID.N:Nat):Int),.int .i64 v.ID.P]) (.tmp rfl rfl) (hs.at_ 1 rfl (0 + 0) rfl) rfl)) ?_
 refine u_two ?_ ?_
 refine u_eff (k:=6) rfl ?_
 have hr533:kViewID.rep H508 v.ID [.int .u64 ((v.ID.N:Nat):Int),.int .i64 v.ID.P]:=⟨rfl,b1,⟨b2,b3⟩⟩
 refine st_c cb46 .func (evs2 (.tmp rfl rfl) (.tmp rfl rfl)) (next14_spec hs532 e5 (((((((hl16.mono hle27).mono hle38).mono hg78).mono hle371).mono hle387).mono hle395).mono hle509) v.ID hr533 ) ?_
 rintro e w534 ⟨H536,cs538,hle537,rfl,hr539,hs535⟩
 obtain ⟨rfl,b540,⟨b541,b542⟩⟩:=hr539
 refine ⟨_,rfl,?_⟩
 refine u_new (S':=fun u => St H536 u (obj g363 47 [.int .u64 ((((((hasT e89 v.ID).getD view0).ID).N):Nat):Int),.int .i64 ((((hasT e89 v.ID).getD view0).ID).P),.int .u16 (((((hasT e89 v.ID).getD view0).Set):Nat):Int)]::obj g17 47 [.int .u64 ((v.ID.N:Nat):Int),.int .i64 v.ID.P,.int .u16 ((v.Set:Nat):Int)]::L)) rfl (fun u hu => hu.weaken hle537) hs535 ?_
 refine u_eff (k:=7) rfl ?_
 refine st_m (al44 (cs:=[.int .u64 0,.int .i64 0]) hs535 rfl) ?_
 rintro _ w544 ⟨g543,rfl,hs546⟩
 refine u_on (S':=fun u => St H536 u (obj g543 44 [.int .u64 0,.int .i64 0]::obj g363 47 [.int .u64 ((((((hasT e89 v.ID).getD view0).ID).N):Nat):Int),.int .i64 ((((hasT e89 v.ID).getD view0).ID).P),.int .u16 (((((hasT e89 v.ID).getD view0).Set):Nat):Int)]::obj g17 47 [.int .u64 ((v.ID.N:Nat):Int),.int .i64 v.ID.P,.int .u16 ((v.Set:Nat):Int)]::L)) (fun u hu => hu.drop) (fun u hu => hu.drop.weaken hle537) hs546 ?_
 refine u_eff (k:=8) rfl ?_
 refine st_m0 (sto44 (cs':=[.int .u64 ((((nextT e5 v.ID).N):Nat):Int),.int .i64 ((nextT e5 v.ID).P)]) (i:=0) hs546 (v:=.agg #[.int .u64 ((((nextT e5 v.ID).N):Nat):Int),.int .i64 ((nextT e5 v.ID).P)]) (.tmp rfl rfl) (.tmp rfl rfl) rfl (Nat.le_of_ble_eq_true rfl) (oneA rfl) rfl) ?_
 rintro w547 hs549
 refine u_new (S':=fun u => St H536 u (obj g543 44 [.int .u64 ((((nextT e5 v.ID).N):Nat):Int),.int .i64 ((nextT e5 v.ID).P)]::obj g363 47 [.int .u64 ((((((hasT e89 v.ID).getD view0).ID).N):Nat):Int),.int .i64 ((((hasT e89 v.ID).getD view0).ID).P),.int .u16 (((((hasT e89 v.ID).getD view0).Set):Nat):Int)]::obj g17 47 [.int .u64 ((v.ID.N:Nat):Int),.int .i64 v.ID.P,.int .u16 ((v.Set:Nat):Int)]::L)) rfl (fun u hu => hu.drop.weaken hle537) hs549 ?_
 refine u_nil ?_
 refine n_then (c_seq (t_region (L:=obj g543 44 [.int .u64 ((((nextT e5 v.ID).N):Nat):Int),.int .i64 ((nextT e5 v.ID).P)]::obj g363 47 [.int .u64 ((((((hasT e89 v.ID).getD view0).ID).N):Nat):Int),.int .i64 ((((hasT e89 v.ID).getD view0).ID).P),.int .u16 (((((hasT e89 v.ID).getD view0).Set):Nat):Int)]::obj g17 47 [.int .u64 ((v.ID.N:Nat):Int),.int .i64 v.ID.P,.int .u16 ((v.Set:Nat):Int)]::L) (L':=obj g543 44 [.int .u64 ((((nextT e5 v.ID).N):Nat):Int),.int .i64 ((nextT e5 v.ID).P)]::obj g363 47 [.int .u64 ((((((hasT e89 v.ID).getD view0).ID).N):Nat):Int),.int .i64 ((((hasT e89 v.ID).getD view0).ID).P),.int .u16 (((((hasT e89 v.ID).getD view0).Set):Nat):Int)]::obj g17 47 [.int .u64 ((v.ID.N:Nat):Int),.int .i64 v.ID.P,.int .u16 ((v.Set:Nat):Int)]::L) (Z:=[]) (F:=[]) (pl:=(.q 0 (.q 1 (.q 2 (.q 3 (.q 4 (.q 5 (.q 6 (.q 7 (.q 8 (.q 9 (.q 10 (.e 11 (.q 12 (.q 13 (.q 14 (.q 15 (.q 16 (.q 17 (.q 18 (.q 19 (.q 20 .done)))))))))))))))))))))) mixed hs549 (fun u hu => hu) (by kernel_rfl) ?_))
 intro w550 hs551
 refine t_st (k:=0) (v:=.pointer (some ⟨g543,0 + 0,none⟩)) rfl rfl (fun w hs => (fa44_0 (.tmp rfl rfl))) ?_
 refine t_st (k:=1) (v:=.int .u64 ((((nextT e5 v.ID).N):Nat):Int)) rfl rfl (fun w hs => (ld42 (.tmp rfl rfl) (hs.cell 0 rfl (0 + 0) rfl))) ?_
 refine t_st (k:=2) (v:=.bool (decide ((0:Int) < ((((nextT e5 v.ID).N):Nat):Int)))) rfl rfl (fun w hs => (x_gtr (k:=.u64) (a:=((((nextT e5 v.ID).N):Nat):Int)) (b:=0) (.tmp rfl rfl) .const)) ?_
 refine t_st (k:=3) (v:=.bool (decide ((0:Int) < ((((nextT e5 v.ID).N):Nat):Int)))) rfl rfl (fun w hs => (x_move (.tmp rfl rfl))) ?_
 rcases Bool.eq_false_or_eq_true (decide ((0:Int) < ((((nextT e5 v.ID).N):Nat):Int))) with hc552 | hc552
 have hp552:(0:Int) < ((((nextT e5 v.ID).N):Nat):Int):=of_decide_eq_true hc552
 refine t_yes (k:=4) (v:=.agg #[.int .u64 ((((nextT e5 v.ID).N):Nat):Int),.int .i64 ((nextT e5 v.ID).P)]) rfl rfl (yk 146 true rfl rfl hc552) (fun w hs => (ld44 (cs:=[.int .u64 ((((nextT e5 v.ID).N):Nat):Int),.int .i64 ((nextT e5 v.ID).P)]) (.tmp rfl rfl) (hs.at_ 0 rfl (0) rfl) rfl)) ?_
 refine t_yes (k:=5) (v:=.slice A_tr n_tr c_tr) rfl rfl (yk 146 true rfl rfl hc552) (fun w hs => (x_move (.tmp rfl hρ521))) ?_
 refine t_yes (k:=6) (v:=.int .i64 ((j:Nat):Int)) rfl rfl (yk 146 true rfl rfl hc552) (fun w hs => (x_move (.tmp rfl hρ526))) ?_
 refine t_yes (k:=7) (v:=.pointer (some ⟨b90,(o91 + j * 1),none⟩)) rfl rfl (yk 146 true rfl rfl hc552) (fun w hs => (ixo36 (.tmp rfl rfl) hA94 (i:=((j:Nat):Int)) (.tmp rfl rfl) (by omega) (by omega) (by omega))) ?_
 refine t_yes (k:=8) (v:=.slice A97 n98 c99) rfl rfl (yk 146 true rfl rfl hc552) (fun w hs => (ld41 (.tmp rfl rfl) ((hat96x (((((hs.weaken hle537).weaken hle509).weaken hle395).weaken hle387).weaken hle371)).cell 0 rfl))) ?_
 refine t_yes (k:=9) (v:=.pointer (some ⟨g17,0 + 0,none⟩)) rfl rfl (yk 146 true rfl rfl hc552) (fun w hs => (fa47_0 (.tmp rfl hρ523))) ?_
 refine t_yes (k:=10) (v:=.agg #[.int .u64 ((v.ID.N:Nat):Int),.int .i64 v.ID.P]) rfl rfl (yk 146 true rfl rfl hc552) (fun w hs => (ld44 (cs:=[.int .u64 ((v.ID.N:Nat):Int),.int .i64 v.ID.P]) (.tmp rfl rfl) (hs.at_ 2 rfl (0 + 0) rfl) rfl)) ?_
 refine t_eff (k:=11) rfl ?_
 refine g_yes (yk 146 true rfl rfl hc552) ?_
 have hr553:kViewID.rep H536 v.ID [.int .u64 ((v.ID.N:Nat):Int),.int .i64 v.ID.P]:=⟨rfl,b1,⟨b2,b3⟩⟩
 refine st_c cb46 .func (evs2 (.tmp rfl rfl) (.tmp rfl rfl)) (next14_spec hs551 e89 (((((hl100.mono hle371).mono hle387).mono hle395).mono hle509).mono hle537) v.ID hr553 ) ?_
 rintro e w554 ⟨H556,cs558,hle557,rfl,hr559,hs555⟩
 obtain ⟨rfl,b560,⟨b561,b562⟩⟩:=hr559
 refine ⟨_,rfl,?_⟩
 refine t_on (S':=fun u => St H556 u (obj g543 44 [.int .u64 ((((nextT e5 v.ID).N):Nat):Int),.int .i64 ((nextT e5 v.ID).P)]::obj g363 47 [.int .u64 ((((((hasT e89 v.ID).getD view0).ID).N):Nat):Int),.int .i64 ((((hasT e89 v.ID).getD view0).ID).P),.int .u16 (((((hasT e89 v.ID).getD view0).Set):Nat):Int)]::obj g17 47 [.int .u64 ((v.ID.N:Nat):Int),.int .i64 v.ID.P,.int .u16 ((v.Set:Nat):Int)]::L)) (fun u hu => hu.weaken hle557) hs555 ?_
 refine t_yes (k:=12) (v:=.bool ((((((nextT e5 v.ID).N):Nat):Int) == ((((nextT e89 v.ID).N):Nat):Int)) && ((((nextT e5 v.ID).P) == ((nextT e89 v.ID).P)) && true))) rfl rfl (yk 146 true rfl rfl hc552) (fun w hs => (x_eqlA eqg44 (.tmp rfl rfl) (.tmp rfl rfl) (fun d => eqs44 (d + 98) _ ((((nextT e5 v.ID).N):Nat):Int) ((((nextT e89 v.ID).N):Nat):Int) ((nextT e5 v.ID).P) ((nextT e89 v.ID).P)))) ?_
 refine t_st (k:=13) (v:=.bool (decide ((nextT e5 v.ID) = (nextT e89 v.ID)))) rfl rfl (fun w hs => (x_pick_t (.tmp rfl (cVb hc552)) (.tmp rfl (cVb (GViewID.beq_dec (nextT e5 v.ID) (nextT e89 v.ID)))))) ?_
 refine t_st (k:=14) (v:=.bool (decide ((nextT e5 v.ID) = (nextT e89 v.ID)))) rfl rfl (fun w hs => (x_move (.tmp rfl rfl))) ?_
 rcases Bool.eq_false_or_eq_true (decide ((nextT e5 v.ID) = (nextT e89 v.ID))) with hc563 | hc563
 have hp563:(nextT e5 v.ID) = (nextT e89 v.ID):=of_decide_eq_true hc563
 refine t_yes (k:=15) (v:=.slice A28 n29 c30) rfl rfl (yk 157 true rfl rfl hc563) (fun w hs => (x_move (.tmp rfl hρ524))) ?_
 refine t_yes (k:=16) (v:=.int .i64 ((n29:Nat):Int)) rfl rfl (yk 157 true rfl rfl hc563) (fun w hs => (x_len (n:=n29) Tryd.underlying25 (.tmp rfl rfl))) ?_
 refine t_yes (k:=17) (v:=.slice A388 n389 c390) rfl rfl (yk 157 true rfl rfl hc563) (fun w hs => (x_move (.tmp rfl hρ527))) ?_
 refine t_yes (k:=18) (v:=.int .i64 ((n389:Nat):Int)) rfl rfl (yk 157 true rfl rfl hc563) (fun w hs => (x_len (n:=n389) Tryd.underlying25 (.tmp rfl rfl))) ?_
 refine t_yes (k:=19) (v:=.bool (decide ((((n29:Nat):Int):Int) ≠ ((n389:Nat):Int)))) rfl rfl (yk 157 true rfl rfl hc563) (fun w hs => (x_neq (k:=.i64) (a:=((n29:Nat):Int)) (b:=((n389:Nat):Int)) (.tmp rfl rfl) (.tmp rfl rfl))) ?_
 refine t_st (k:=20) (v:=.bool (decide ((((n29:Nat):Int):Int) ≠ ((n389:Nat):Int)))) rfl rfl (fun w hs => (x_pick_t (.tmp rfl (cVb hc563)) (.tmp rfl rfl))) ?_
 refine t_nil ?_
 refine n_then ?_
 rcases Bool.eq_false_or_eq_true (decide ((((n29:Nat):Int):Int) ≠ ((n389:Nat):Int))) with hc564 | hc564
 have hp564:(((n29:Nat):Int):Int) ≠ ((n389:Nat):Int):=of_decide_eq_true hc564
 refine c_cond_t (t:=true) (.tmp rfl (cVb hc564)) rfl ?_
 refine c_seq (c_region (st (v:=.bool false) (x_assign .const) ?_))
 refine c_nil (n_then (c_ret (r_block (r_then (r_then (r_block (r_then (leave_ret (res_one (v:=.bool false) rfl (.mk rfl rfl)) ?_))))))))
 have hans565:inviewT tr i v = false:=inview_no2 (j:=j) (by omega) ((seeT_is hx9 hx93).trans (see_bad5 hc400 (by omega) (of_decide_eq_true hc563) (by omega)))
 rw [hans565]
 exact ⟨H556,((((((((hle27.trans hle38).trans hg78).trans hle371).trans hle387).trans hle395).trans hle509).trans hle537).trans hle557),rfl,hs555.drop.drop.drop⟩
 have hp564:¬ ((((n29:Nat):Int):Int) ≠ ((n389:Nat):Int)):=of_decide_eq_false hc564
 refine c_cond_f (t:=false) (.tmp rfl (cVb hc564)) rfl ?_
 refine c_skip (n_block (n_then (c_region (st (v:=.int .i64 ((j:Nat):Int)) (x_move (.tmp rfl hρ526)) ?_))))
 refine st (v:=.int .i64 (((j + 1):Nat):Int)) (x_add (k:=.i64) (a:=((j:Nat):Int)) (b:=1) (.tmp rfl rfl) .const ((w64 (by omega) (by omega)).trans (by omega))) ?_
 refine st (v:=.int .i64 (((j + 1):Nat):Int)) (x_assign (.tmp rfl rfl)) ?_
 refine c_nil ?_
 refine n_then ⟨_,_,rfl,?_,H556,(j + 1),hρ521,hρ522,hρ523,hρ524,hρ525,rfl,((((((hg78.trans hle371).trans hle387).trans hle395).trans hle509).trans hle537).trans hle557),(by omega),(see_next (p:=fun j => seeT tr i v j = true) hse ((seeT_is hx9 hx93).trans (see_ok hc400 (of_decide_eq_true hc403) (.inr hc504) hc516 (by have h9:=hc529; simp only [Bool.and_eq_false_iff,decide_eq_false_iff_not] at h9; rintro ⟨h8,h7⟩; rcases h9 with h9 | h9; omega; rw [h7] at h9; cases h9) (by rintro ⟨h8,h7,h6⟩; omega)))),hs555.drop.drop,rfl⟩
 omega
 have hp563:¬ ((nextT e5 v.ID) = (nextT e89 v.ID)):=of_decide_eq_false hc563
 refine t_no (k:=15) rfl (yk 157 false rfl rfl hc563) rfl ?_
 refine t_no (k:=16) rfl (yk 157 false rfl rfl hc563) rfl ?_
 refine t_no (k:=17) rfl (yk 157 false rfl rfl hc563) rfl ?_
 refine t_no (k:=18) rfl (yk 157 false rfl rfl hc563) rfl ?_
 refine t_no (k:=19) rfl (yk 157 false rfl rfl hc563) rfl ?_
 refine t_st (k:=20) (v:=.bool false) rfl rfl (fun w hs => (x_pick_f (.tmp rfl (cVb hc563)) .const)) ?_
 refine t_nil ?_
 refine n_then (c_cond_f (t:=false) (.tmp rfl rfl) rfl ?_)
 refine c_skip (n_block (n_then (c_region (st (v:=.int .i64 ((j:Nat):Int)) (x_move (.tmp rfl hρ526)) ?_))))
 refine st (v:=.int .i64 (((j + 1):Nat):Int)) (x_add (k:=.i64) (a:=((j:Nat):Int)) (b:=1) (.tmp rfl rfl) .const ((w64 (by omega) (by omega)).trans (by omega))) ?_
 refine st (v:=.int .i64 (((j + 1):Nat):Int)) (x_assign (.tmp rfl rfl)) ?_
 refine c_nil ?_
 refine n_then ⟨_,_,rfl,?_,H556,(j + 1),hρ521,hρ522,hρ523,hρ524,hρ525,rfl,((((((hg78.trans hle371).trans hle387).trans hle395).trans hle509).trans hle537).trans hle557),(by omega),(see_next (p:=fun j => seeT tr i v j = true) hse ((seeT_is hx9 hx93).trans (see_ok hc400 (of_decide_eq_true hc403) (.inr hc504) hc516 (by have h9:=hc529; simp only [Bool.and_eq_false_iff,decide_eq_false_iff_not] at h9; rintro ⟨h8,h7⟩; rcases h9 with h9 | h9; omega; rw [h7] at h9; cases h9) (by rintro ⟨h8,h7,h6⟩; exact absurd h7 (of_decide_eq_false hc563))))),hs555.drop.drop,rfl⟩
 omega
 have hp552:¬ ((0:Int) < ((((nextT e5 v.ID).N):Nat):Int)):=of_decide_eq_false hc552
 refine t_no (k:=4) rfl (yk 146 false rfl rfl hc552) rfl ?_
 refine t_no (k:=5) rfl (yk 146 false rfl rfl hc552) rfl ?_
 refine t_no (k:=6) rfl (yk 146 false rfl rfl hc552) rfl ?_
 refine t_no (k:=7) rfl (yk 146 false rfl rfl hc552) rfl ?_
 refine t_no (k:=8) rfl (yk 146 false rfl rfl hc552) rfl ?_
 refine t_no (k:=9) rfl (yk 146 false rfl rfl hc552) rfl ?_
 refine t_no (k:=10) rfl (yk 146 false rfl rfl hc552) rfl ?_
 refine t_eff (k:=11) rfl ?_
 refine g_no (yk 146 false rfl rfl hc552) rfl ?_
 refine t_on (S':=fun u => St H536 u (obj g543 44 [.int .u64 ((((nextT e5 v.ID).N):Nat):Int),.int .i64 ((nextT e5 v.ID).P)]::obj g363 47 [.int .u64 ((((((hasT e89 v.ID).getD view0).ID).N):Nat):Int),.int .i64 ((((hasT e89 v.ID).getD view0).ID).P),.int .u16 (((((hasT e89 v.ID).getD view0).Set):Nat):Int)]::obj g17 47 [.int .u64 ((v.ID.N:Nat):Int),.int .i64 v.ID.P,.int .u16 ((v.Set:Nat):Int)]::L)) (fun u hu => hu) hs551 ?_
 refine t_no (k:=12) rfl (yk 146 false rfl rfl hc552) rfl ?_
 refine t_st (k:=13) (v:=.bool false) rfl rfl (fun w hs => (x_pick_f (.tmp rfl (cVb hc552)) .const)) ?_
 refine t_st (k:=14) (v:=.bool false) rfl rfl (fun w hs => (x_move (.tmp rfl rfl))) ?_
 refine t_no (k:=15) rfl (yl (dj:=157) (b:=false) rfl rfl rfl) rfl ?_
 refine t_no (k:=16) rfl (yl (dj:=157) (b:=false) rfl rfl rfl) rfl ?_
 refine t_no (k:=17) rfl (yl (dj:=157) (b:=false) rfl rfl rfl) rfl ?_
 refine t_no (k:=18) rfl (yl (dj:=157) (b:=false) rfl rfl rfl) rfl ?_
 refine t_no (k:=19) rfl (yl (dj:=157) (b:=false) rfl rfl rfl) rfl ?_
 refine t_st (k:=20) (v:=.bool false) rfl rfl (fun w hs => (x_pick_f (.tmp rfl rfl) .const)) ?_
 refine t_nil ?_
 refine n_then (c_cond_f (t:=false) (.tmp rfl rfl) rfl ?_)
 refine c_skip (n_block (n_then (c_region (st (v:=.int .i64 ((j:Nat):Int)) (x_move (.tmp rfl hρ526)) ?_))))
 refine st (v:=.int .i64 (((j + 1):Nat):Int)) (x_add (k:=.i64) (a:=((j:Nat):Int)) (b:=1) (.tmp rfl rfl) .const ((w64 (by omega) (by omega)).trans (by omega))) ?_
 refine st (v:=.int .i64 (((j + 1):Nat):Int)) (x_assign (.tmp rfl rfl)) ?_
 refine c_nil ?_
 refine n_then ⟨_,_,rfl,?_,H536,(j + 1),hρ521,hρ522,hρ523,hρ524,hρ525,rfl,(((((hg78.trans hle371).trans hle387).trans hle395).trans hle509).trans hle537),(by omega),(see_next (p:=fun j => seeT tr i v j = true) hse ((seeT_is hx9 hx93).trans (see_ok hc400 (of_decide_eq_true hc403) (.inr hc504) hc516 (by have h9:=hc529; simp only [Bool.and_eq_false_iff,decide_eq_false_iff_not] at h9; rintro ⟨h8,h7⟩; rcases h9 with h9 | h9; omega; rw [h7] at h9; cases h9) (by rintro ⟨h8,h7,h6⟩; omega)))),hs551.drop.drop,rfl⟩
 omega
 refine u_eff (k:=7) rfl ?_
 refine st_m (al44 (cs:=[.int .u64 0,.int .i64 0]) hs532 rfl) ?_
 rintro _ w567 ⟨g566,rfl,hs569⟩
 refine u_on (S':=fun u => St H508 u (obj g566 44 [.int .u64 0,.int .i64 0]::obj g363 47 [.int .u64 ((((((hasT e89 v.ID).getD view0).ID).N):Nat):Int),.int .i64 ((((hasT e89 v.ID).getD view0).ID).P),.int .u16 (((((hasT e89 v.ID).getD view0).Set):Nat):Int)]::obj g17 47 [.int .u64 ((v.ID.N:Nat):Int),.int .i64 v.ID.P,.int .u16 ((v.Set:Nat):Int)]::L)) (fun u hu => hu.drop) (fun u hu => hu.drop) hs569 ?_
 refine u_eff (k:=6) rfl ?_
 have hr570:kViewID.rep H508 v.ID [.int .u64 ((v.ID.N:Nat):Int),.int .i64 v.ID.P]:=⟨rfl,b1,⟨b2,b3⟩⟩
 refine st_c cb46 .func (evs2 (.tmp rfl rfl) (.tmp rfl rfl)) (next14_spec hs569 e5 (((((((hl16.mono hle27).mono hle38).mono hg78).mono hle371).mono hle387).mono hle395).mono hle509) v.ID hr570 ) ?_
 rintro e w571 ⟨H573,cs575,hle574,rfl,hr576,hs572⟩
 obtain ⟨rfl,b577,⟨b578,b579⟩⟩:=hr576
 refine ⟨_,rfl,?_⟩
 refine u_new (S':=fun u => St H573 u (obj g566 44 [.int .u64 0,.int .i64 0]::obj g363 47 [.int .u64 ((((((hasT e89 v.ID).getD view0).ID).N):Nat):Int),.int .i64 ((((hasT e89 v.ID).getD view0).ID).P),.int .u16 (((((hasT e89 v.ID).getD view0).Set):Nat):Int)]::obj g17 47 [.int .u64 ((v.ID.N:Nat):Int),.int .i64 v.ID.P,.int .u16 ((v.Set:Nat):Int)]::L)) rfl (fun u hu => hu.drop.weaken hle574) hs572 ?_
 refine u_eff (k:=8) rfl ?_
 refine st_m0 (sto44 (cs':=[.int .u64 ((((nextT e5 v.ID).N):Nat):Int),.int .i64 ((nextT e5 v.ID).P)]) (i:=0) hs572 (v:=.agg #[.int .u64 ((((nextT e5 v.ID).N):Nat):Int),.int .i64 ((nextT e5 v.ID).P)]) (.tmp rfl rfl) (.tmp rfl rfl) rfl (Nat.le_of_ble_eq_true rfl) (oneA rfl) rfl) ?_
 rintro w580 hs582
 refine u_new (S':=fun u => St H573 u (obj g566 44 [.int .u64 ((((nextT e5 v.ID).N):Nat):Int),.int .i64 ((nextT e5 v.ID).P)]::obj g363 47 [.int .u64 ((((((hasT e89 v.ID).getD view0).ID).N):Nat):Int),.int .i64 ((((hasT e89 v.ID).getD view0).ID).P),.int .u16 (((((hasT e89 v.ID).getD view0).Set):Nat):Int)]::obj g17 47 [.int .u64 ((v.ID.N:Nat):Int),.int .i64 v.ID.P,.int .u16 ((v.Set:Nat):Int)]::L)) rfl (fun u hu => hu.drop.weaken hle574) hs582 ?_
 refine u_nil ?_
 refine n_then (c_seq (t_region (L:=obj g566 44 [.int .u64 ((((nextT e5 v.ID).N):Nat):Int),.int .i64 ((nextT e5 v.ID).P)]::obj g363 47 [.int .u64 ((((((hasT e89 v.ID).getD view0).ID).N):Nat):Int),.int .i64 ((((hasT e89 v.ID).getD view0).ID).P),.int .u16 (((((hasT e89 v.ID).getD view0).Set):Nat):Int)]::obj g17 47 [.int .u64 ((v.ID.N:Nat):Int),.int .i64 v.ID.P,.int .u16 ((v.Set:Nat):Int)]::L) (L':=obj g566 44 [.int .u64 ((((nextT e5 v.ID).N):Nat):Int),.int .i64 ((nextT e5 v.ID).P)]::obj g363 47 [.int .u64 ((((((hasT e89 v.ID).getD view0).ID).N):Nat):Int),.int .i64 ((((hasT e89 v.ID).getD view0).ID).P),.int .u16 (((((hasT e89 v.ID).getD view0).Set):Nat):Int)]::obj g17 47 [.int .u64 ((v.ID.N:Nat):Int),.int .i64 v.ID.P,.int .u16 ((v.Set:Nat):Int)]::L) (Z:=[]) (F:=[]) (pl:=(.q 0 (.q 1 (.q 2 (.q 3 (.q 4 (.q 5 (.q 6 (.q 7 (.q 8 (.q 9 (.q 10 (.e 11 (.q 12 (.q 13 (.q 14 (.q 15 (.q 16 (.q 17 (.q 18 (.q 19 (.q 20 .done)))))))))))))))))))))) mixed hs582 (fun u hu => hu) (by kernel_rfl) ?_))
 intro w583 hs584
 refine t_st (k:=0) (v:=.pointer (some ⟨g566,0 + 0,none⟩)) rfl rfl (fun w hs => (fa44_0 (.tmp rfl rfl))) ?_
 refine t_st (k:=1) (v:=.int .u64 ((((nextT e5 v.ID).N):Nat):Int)) rfl rfl (fun w hs => (ld42 (.tmp rfl rfl) (hs.cell 0 rfl (0 + 0) rfl))) ?_
 refine t_st (k:=2) (v:=.bool (decide ((0:Int) < ((((nextT e5 v.ID).N):Nat):Int)))) rfl rfl (fun w hs => (x_gtr (k:=.u64) (a:=((((nextT e5 v.ID).N):Nat):Int)) (b:=0) (.tmp rfl rfl) .const)) ?_
 refine t_st (k:=3) (v:=.bool (decide ((0:Int) < ((((nextT e5 v.ID).N):Nat):Int)))) rfl rfl (fun w hs => (x_move (.tmp rfl rfl))) ?_
 rcases Bool.eq_false_or_eq_true (decide ((0:Int) < ((((nextT e5 v.ID).N):Nat):Int))) with hc585 | hc585
 have hp585:(0:Int) < ((((nextT e5 v.ID).N):Nat):Int):=of_decide_eq_true hc585
 refine t_yes (k:=4) (v:=.agg #[.int .u64 ((((nextT e5 v.ID).N):Nat):Int),.int .i64 ((nextT e5 v.ID).P)]) rfl rfl (yk 146 true rfl rfl hc585) (fun w hs => (ld44 (cs:=[.int .u64 ((((nextT e5 v.ID).N):Nat):Int),.int .i64 ((nextT e5 v.ID).P)]) (.tmp rfl rfl) (hs.at_ 0 rfl (0) rfl) rfl)) ?_
 refine t_yes (k:=5) (v:=.slice A_tr n_tr c_tr) rfl rfl (yk 146 true rfl rfl hc585) (fun w hs => (x_move (.tmp rfl hρ521))) ?_
 refine t_yes (k:=6) (v:=.int .i64 ((j:Nat):Int)) rfl rfl (yk 146 true rfl rfl hc585) (fun w hs => (x_move (.tmp rfl hρ526))) ?_
 refine t_yes (k:=7) (v:=.pointer (some ⟨b90,(o91 + j * 1),none⟩)) rfl rfl (yk 146 true rfl rfl hc585) (fun w hs => (ixo36 (.tmp rfl rfl) hA94 (i:=((j:Nat):Int)) (.tmp rfl rfl) (by omega) (by omega) (by omega))) ?_
 refine t_yes (k:=8) (v:=.slice A97 n98 c99) rfl rfl (yk 146 true rfl rfl hc585) (fun w hs => (ld41 (.tmp rfl rfl) ((hat96x (((((hs.weaken hle574).weaken hle509).weaken hle395).weaken hle387).weaken hle371)).cell 0 rfl))) ?_
 refine t_yes (k:=9) (v:=.pointer (some ⟨g17,0 + 0,none⟩)) rfl rfl (yk 146 true rfl rfl hc585) (fun w hs => (fa47_0 (.tmp rfl hρ523))) ?_
 refine t_yes (k:=10) (v:=.agg #[.int .u64 ((v.ID.N:Nat):Int),.int .i64 v.ID.P]) rfl rfl (yk 146 true rfl rfl hc585) (fun w hs => (ld44 (cs:=[.int .u64 ((v.ID.N:Nat):Int),.int .i64 v.ID.P]) (.tmp rfl rfl) (hs.at_ 2 rfl (0 + 0) rfl) rfl)) ?_
 refine t_eff (k:=11) rfl ?_
 refine g_yes (yk 146 true rfl rfl hc585) ?_
 have hr586:kViewID.rep H573 v.ID [.int .u64 ((v.ID.N:Nat):Int),.int .i64 v.ID.P]:=⟨rfl,b1,⟨b2,b3⟩⟩
 refine st_c cb46 .func (evs2 (.tmp rfl rfl) (.tmp rfl rfl)) (next14_spec hs584 e89 (((((hl100.mono hle371).mono hle387).mono hle395).mono hle509).mono hle574) v.ID hr586 ) ?_
 rintro e w587 ⟨H589,cs591,hle590,rfl,hr592,hs588⟩
 obtain ⟨rfl,b593,⟨b594,b595⟩⟩:=hr592
 refine ⟨_,rfl,?_⟩
 refine t_on (S':=fun u => St H589 u (obj g566 44 [.int .u64 ((((nextT e5 v.ID).N):Nat):Int),.int .i64 ((nextT e5 v.ID).P)]::obj g363 47 [.int .u64 ((((((hasT e89 v.ID).getD view0).ID).N):Nat):Int),.int .i64 ((((hasT e89 v.ID).getD view0).ID).P),.int .u16 (((((hasT e89 v.ID).getD view0).Set):Nat):Int)]::obj g17 47 [.int .u64 ((v.ID.N:Nat):Int),.int .i64 v.ID.P,.int .u16 ((v.Set:Nat):Int)]::L)) (fun u hu => hu.weaken hle590) hs588 ?_
 refine t_yes (k:=12) (v:=.bool ((((((nextT e5 v.ID).N):Nat):Int) == ((((nextT e89 v.ID).N):Nat):Int)) && ((((nextT e5 v.ID).P) == ((nextT e89 v.ID).P)) && true))) rfl rfl (yk 146 true rfl rfl hc585) (fun w hs => (x_eqlA eqg44 (.tmp rfl rfl) (.tmp rfl rfl) (fun d => eqs44 (d + 98) _ ((((nextT e5 v.ID).N):Nat):Int) ((((nextT e89 v.ID).N):Nat):Int) ((nextT e5 v.ID).P) ((nextT e89 v.ID).P)))) ?_
 refine t_st (k:=13) (v:=.bool (decide ((nextT e5 v.ID) = (nextT e89 v.ID)))) rfl rfl (fun w hs => (x_pick_t (.tmp rfl (cVb hc585)) (.tmp rfl (cVb (GViewID.beq_dec (nextT e5 v.ID) (nextT e89 v.ID)))))) ?_
 refine t_st (k:=14) (v:=.bool (decide ((nextT e5 v.ID) = (nextT e89 v.ID)))) rfl rfl (fun w hs => (x_move (.tmp rfl rfl))) ?_
 rcases Bool.eq_false_or_eq_true (decide ((nextT e5 v.ID) = (nextT e89 v.ID))) with hc596 | hc596
 have hp596:(nextT e5 v.ID) = (nextT e89 v.ID):=of_decide_eq_true hc596
 refine t_yes (k:=15) (v:=.slice A28 n29 c30) rfl rfl (yk 157 true rfl rfl hc596) (fun w hs => (x_move (.tmp rfl hρ524))) ?_
 refine t_yes (k:=16) (v:=.int .i64 ((n29:Nat):Int)) rfl rfl (yk 157 true rfl rfl hc596) (fun w hs => (x_len (n:=n29) Tryd.underlying25 (.tmp rfl rfl))) ?_
 refine t_yes (k:=17) (v:=.slice A388 n389 c390) rfl rfl (yk 157 true rfl rfl hc596) (fun w hs => (x_move (.tmp rfl hρ527))) ?_
 refine t_yes (k:=18) (v:=.int .i64 ((n389:Nat):Int)) rfl rfl (yk 157 true rfl rfl hc596) (fun w hs => (x_len (n:=n389) Tryd.underlying25 (.tmp rfl rfl))) ?_
 refine t_yes (k:=19) (v:=.bool (decide ((((n29:Nat):Int):Int) ≠ ((n389:Nat):Int)))) rfl rfl (yk 157 true rfl rfl hc596) (fun w hs => (x_neq (k:=.i64) (a:=((n29:Nat):Int)) (b:=((n389:Nat):Int)) (.tmp rfl rfl) (.tmp rfl rfl))) ?_
 refine t_st (k:=20) (v:=.bool (decide ((((n29:Nat):Int):Int) ≠ ((n389:Nat):Int)))) rfl rfl (fun w hs => (x_pick_t (.tmp rfl (cVb hc596)) (.tmp rfl rfl))) ?_
 refine t_nil ?_
 refine n_then ?_
 rcases Bool.eq_false_or_eq_true (decide ((((n29:Nat):Int):Int) ≠ ((n389:Nat):Int))) with hc597 | hc597
 have hp597:(((n29:Nat):Int):Int) ≠ ((n389:Nat):Int):=of_decide_eq_true hc597
 refine c_cond_t (t:=true) (.tmp rfl (cVb hc597)) rfl ?_
 refine c_seq (c_region (st (v:=.bool false) (x_assign .const) ?_))
 refine c_nil (n_then (c_ret (r_block (r_then (r_then (r_block (r_then (leave_ret (res_one (v:=.bool false) rfl (.mk rfl rfl)) ?_))))))))
 have hans598:inviewT tr i v = false:=inview_no2 (j:=j) (by omega) ((seeT_is hx9 hx93).trans (see_bad5 hc400 (by omega) (of_decide_eq_true hc596) (by omega)))
 rw [hans598]
 exact ⟨H589,((((((((hle27.trans hle38).trans hg78).trans hle371).trans hle387).trans hle395).trans hle509).trans hle574).trans hle590),rfl,hs588.drop.drop.drop⟩
 have hp597:¬ ((((n29:Nat):Int):Int) ≠ ((n389:Nat):Int)):=of_decide_eq_false hc597
 refine c_cond_f (t:=false) (.tmp rfl (cVb hc597)) rfl ?_
 refine c_skip (n_block (n_then (c_region (st (v:=.int .i64 ((j:Nat):Int)) (x_move (.tmp rfl hρ526)) ?_))))
 refine st (v:=.int .i64 (((j + 1):Nat):Int)) (x_add (k:=.i64) (a:=((j:Nat):Int)) (b:=1) (.tmp rfl rfl) .const ((w64 (by omega) (by omega)).trans (by omega))) ?_
 refine st (v:=.int .i64 (((j + 1):Nat):Int)) (x_assign (.tmp rfl rfl)) ?_
 refine c_nil ?_
 refine n_then ⟨_,_,rfl,?_,H589,(j + 1),hρ521,hρ522,hρ523,hρ524,hρ525,rfl,((((((hg78.trans hle371).trans hle387).trans hle395).trans hle509).trans hle574).trans hle590),(by omega),(see_next (p:=fun j => seeT tr i v j = true) hse ((seeT_is hx9 hx93).trans (see_ok hc400 (of_decide_eq_true hc403) (.inr hc504) hc516 (by have h9:=hc529; simp only [Bool.and_eq_false_iff,decide_eq_false_iff_not] at h9; rintro ⟨h8,h7⟩; rcases h9 with h9 | h9; omega; rw [h7] at h9; cases h9) (by rintro ⟨h8,h7,h6⟩; omega)))),hs588.drop.drop,rfl⟩
 omega
 have hp596:¬ ((nextT e5 v.ID) = (nextT e89 v.ID)):=of_decide_eq_false hc596
 refine t_no (k:=15) rfl (yk 157 false rfl rfl hc596) rfl ?_
 refine t_no (k:=16) rfl (yk 157 false rfl rfl hc596) rfl ?_
 refine t_no (k:=17) rfl (yk 157 false rfl rfl hc596) rfl ?_
 refine t_no (k:=18) rfl (yk 157 false rfl rfl hc596) rfl ?_
 refine t_no (k:=19) rfl (yk 157 false rfl rfl hc596) rfl ?_
 refine t_st (k:=20) (v:=.bool false) rfl rfl (fun w hs => (x_pick_f (.tmp rfl (cVb hc596)) .const)) ?_
 refine t_nil ?_
 refine n_then (c_cond_f (t:=false) (.tmp rfl rfl) rfl ?_)
 refine c_skip (n_block (n_then (c_region (st (v:=.int .i64 ((j:Nat):Int)) (x_move (.tmp rfl hρ526)) ?_))))
 refine st (v:=.int .i64 (((j + 1):Nat):Int)) (x_add (k:=.i64) (a:=((j:Nat):Int)) (b:=1) (.tmp rfl rfl) .const ((w64 (by omega) (by omega)).trans (by omega))) ?_
 refine st (v:=.int .i64 (((j + 1):Nat):Int)) (x_assign (.tmp rfl rfl)) ?_
 refine c_nil ?_
 refine n_then ⟨_,_,rfl,?_,H589,(j + 1),hρ521,hρ522,hρ523,hρ524,hρ525,rfl,((((((hg78.trans hle371).trans hle387).trans hle395).trans hle509).trans hle574).trans hle590),(by omega),(see_next (p:=fun j => seeT tr i v j = true) hse ((seeT_is hx9 hx93).trans (see_ok hc400 (of_decide_eq_true hc403) (.inr hc504) hc516 (by have h9:=hc529; simp only [Bool.and_eq_false_iff,decide_eq_false_iff_not] at h9; rintro ⟨h8,h7⟩; rcases h9 with h9 | h9; omega; rw [h7] at h9; cases h9) (by rintro ⟨h8,h7,h6⟩; exact absurd h7 (of_decide_eq_false hc596))))),hs588.drop.drop,rfl⟩
 omega
 have hp585:¬ ((0:Int) < ((((nextT e5 v.ID).N):Nat):Int)):=of_decide_eq_false hc585
 refine t_no (k:=4) rfl (yk 146 false rfl rfl hc585) rfl ?_
 refine t_no (k:=5) rfl (yk 146 false rfl rfl hc585) rfl ?_
 refine t_no (k:=6) rfl (yk 146 false rfl rfl hc585) rfl ?_
 refine t_no (k:=7) rfl (yk 146 false rfl rfl hc585) rfl ?_
 refine t_no (k:=8) rfl (yk 146 false rfl rfl hc585) rfl ?_
 refine t_no (k:=9) rfl (yk 146 false rfl rfl hc585) rfl ?_
 refine t_no (k:=10) rfl (yk 146 false rfl rfl hc585) rfl ?_
 refine t_eff (k:=11) rfl ?_
 refine g_no (yk 146 false rfl rfl hc585) rfl ?_
 refine t_on (S':=fun u => St H573 u (obj g566 44 [.int .u64 ((((nextT e5 v.ID).N):Nat):Int),.int .i64 ((nextT e5 v.ID).P)]::obj g363 47 [.int .u64 ((((((hasT e89 v.ID).getD view0).ID).N):Nat):Int),.int .i64 ((((hasT e89 v.ID).getD view0).ID).P),.int .u16 (((((hasT e89 v.ID).getD view0).Set):Nat):Int)]::obj g17 47 [.int .u64 ((v.ID.N:Nat):Int),.int .i64 v.ID.P,.int .u16 ((v.Set:Nat):Int)]::L)) (fun u hu => hu) hs584 ?_
 refine t_no (k:=12) rfl (yk 146 false rfl rfl hc585) rfl ?_
 refine t_st (k:=13) (v:=.bool false) rfl rfl (fun w hs => (x_pick_f (.tmp rfl (cVb hc585)) .const)) ?_
 refine t_st (k:=14) (v:=.bool false) rfl rfl (fun w hs => (x_move (.tmp rfl rfl))) ?_
 refine t_no (k:=15) rfl (yl (dj:=157) (b:=false) rfl rfl rfl) rfl ?_
 refine t_no (k:=16) rfl (yl (dj:=157) (b:=false) rfl rfl rfl) rfl ?_
 refine t_no (k:=17) rfl (yl (dj:=157) (b:=false) rfl rfl rfl) rfl ?_
 refine t_no (k:=18) rfl (yl (dj:=157) (b:=false) rfl rfl rfl) rfl ?_
 refine t_no (k:=19) rfl (yl (dj:=157) (b:=false) rfl rfl rfl) rfl ?_
 refine t_st (k:=20) (v:=.bool false) rfl rfl (fun w hs => (x_pick_f (.tmp rfl rfl) .const)) ?_
 refine t_nil ?_
 refine n_then (c_cond_f (t:=false) (.tmp rfl rfl) rfl ?_)
 refine c_skip (n_block (n_then (c_region (st (v:=.int .i64 ((j:Nat):Int)) (x_move (.tmp rfl hρ526)) ?_))))
 refine st (v:=.int .i64 (((j + 1):Nat):Int)) (x_add (k:=.i64) (a:=((j:Nat):Int)) (b:=1) (.tmp rfl rfl) .const ((w64 (by omega) (by omega)).trans (by omega))) ?_
 refine st (v:=.int .i64 (((j + 1):Nat):Int)) (x_assign (.tmp rfl rfl)) ?_
 refine c_nil ?_
 refine n_then ⟨_,_,rfl,?_,H573,(j + 1),hρ521,hρ522,hρ523,hρ524,hρ525,rfl,(((((hg78.trans hle371).trans hle387).trans hle395).trans hle509).trans hle574),(by omega),(see_next (p:=fun j => seeT tr i v j = true) hse ((seeT_is hx9 hx93).trans (see_ok hc400 (of_decide_eq_true hc403) (.inr hc504) hc516 (by have h9:=hc529; simp only [Bool.and_eq_false_iff,decide_eq_false_iff_not] at h9; rintro ⟨h8,h7⟩; rcases h9 with h9 | h9; omega; rw [h7] at h9; cases h9) (by rintro ⟨h8,h7,h6⟩; omega)))),hs584.drop.drop,rfl⟩
 omega
 refine c_cond_t (t:=true) (.tmp rfl (cVb (by rw [hc516]; rfl))) rfl ?_
 refine c_seq (c_region (st (v:=.bool false) (x_assign .const) ?_))
 refine c_nil (n_then (c_ret (r_then (r_block (r_then (r_then (r_block (r_then (leave_ret (res_one (v:=.bool false) rfl (.mk rfl rfl)) ?_)))))))))
 have hans599:inviewT tr i v = false:=inview_no2 (j:=j) (by omega) ((seeT_is hx9 hx93).trans (see_bad3 hc400 hc516))
 rw [hans599]
 exact ⟨H508,((((((hle27.trans hle38).trans hg78).trans hle371).trans hle387).trans hle395).trans hle509),rfl,hs515.drop.drop⟩
 refine t_no (k:=16) rfl (yl (dj:=113) (b:=true) rfl rfl (cVb (by rw [hc504]; rfl))) rfl ?_
 refine t_no (k:=17) rfl (yl (dj:=113) (b:=true) rfl rfl (cVb (by rw [hc504]; rfl))) rfl ?_
 refine t_no (k:=18) rfl (yl (dj:=113) (b:=true) rfl rfl (cVb (by rw [hc504]; rfl))) rfl ?_
 refine t_no (k:=19) rfl (yl (dj:=113) (b:=true) rfl rfl (cVb (by rw [hc504]; rfl))) rfl ?_
 refine t_no (k:=20) rfl (yl (dj:=113) (b:=true) rfl rfl (cVb (by rw [hc504]; rfl))) rfl ?_
 refine t_no (k:=21) rfl (yl (dj:=113) (b:=true) rfl rfl (cVb (by rw [hc504]; rfl))) rfl ?_
 refine t_no (k:=22) rfl (yl (dj:=113) (b:=true) rfl rfl (cVb (by rw [hc504]; rfl))) rfl ?_
 refine t_no (k:=23) rfl (yl (dj:=113) (b:=true) rfl rfl (cVb (by rw [hc504]; rfl))) rfl ?_
 refine t_eff (k:=24) rfl ?_
 refine g_no (yl (dj:=113) (b:=true) rfl rfl (cVb (by rw [hc504]; rfl))) rfl ?_
 refine t_on (S':=fun u => St H394 u (obj g363 47 [.int .u64 ((((((hasT e89 v.ID).getD view0).ID).N):Nat):Int),.int .i64 ((((hasT e89 v.ID).getD view0).ID).P),.int .u16 (((((hasT e89 v.ID).getD view0).Set):Nat):Int)]::obj g17 47 [.int .u64 ((v.ID.N:Nat):Int),.int .i64 v.ID.P,.int .u16 ((v.Set:Nat):Int)]::L)) (fun u hu => hu) hs503 ?_
 refine t_eff (k:=25) rfl ?_
 refine g_no (yl (dj:=113) (b:=true) rfl rfl (cVb (by rw [hc504]; rfl))) rfl ?_
 refine t_on (S':=fun u => St H394 u (obj g363 47 [.int .u64 ((((((hasT e89 v.ID).getD view0).ID).N):Nat):Int),.int .i64 ((((hasT e89 v.ID).getD view0).ID).P),.int .u16 (((((hasT e89 v.ID).getD view0).Set):Nat):Int)]::obj g17 47 [.int .u64 ((v.ID.N:Nat):Int),.int .i64 v.ID.P,.int .u16 ((v.Set:Nat):Int)]::L)) (fun u hu => hu) hs503 ?_
 refine t_no (k:=26) rfl (yl (dj:=113) (b:=true) rfl rfl (cVb (by rw [hc504]; rfl))) rfl ?_
 refine t_st (k:=27) (v:=.bool true) rfl rfl (fun w hs => (x_pick_t (.tmp rfl (cVb (by rw [hc504]; rfl))) .const)) ?_
 refine t_nil ?_
 refine n_then (c_cond_t (t:=true) (.tmp rfl rfl) rfl ?_)
 refine c_seq (c_region (st (v:=.bool false) (x_assign .const) ?_))
 refine c_nil (n_then (c_ret (r_then (r_block (r_then (r_then (r_block (r_then (leave_ret (res_one (v:=.bool false) rfl (.mk rfl rfl)) ?_)))))))))
 have hans600:inviewT tr i v = false:=inview_no2 (j:=j) (by omega) ((seeT_is hx9 hx93).trans (see_bad2 hc400 hc406 hc504))
 rw [hans600]
 exact ⟨H394,(((((hle27.trans hle38).trans hg78).trans hle371).trans hle387).trans hle395),rfl,hs503.drop.drop⟩
 have hp403:¬ (((hasT e89 v.ID).getD view0) = v):=of_decide_eq_false hc403
 refine t_no (k:=4) rfl (yl (dj:=101) (b:=true) rfl rfl (cVb (by rw [hc403]; rfl))) rfl ?_
 refine t_no (k:=5) rfl (yl (dj:=101) (b:=true) rfl rfl (cVb (by rw [hc403]; rfl))) rfl ?_
 refine t_eff (k:=6) rfl ?_
 refine g_no (yl (dj:=101) (b:=true) rfl rfl (cVb (by rw [hc403]; rfl))) rfl ?_
 refine t_new (S':=fun u => St H394 u (obj g363 47 [.int .u64 ((((((hasT e89 v.ID).getD view0).ID).N):Nat):Int),.int .i64 ((((hasT e89 v.ID).getD view0).ID).P),.int .u16 (((((hasT e89 v.ID).getD view0).Set):Nat):Int)]::obj g17 47 [.int .u64 ((v.ID.N:Nat):Int),.int .i64 v.ID.P,.int .u16 ((v.Set:Nat):Int)]::L)) rfl hs402 ?_
 refine t_no (k:=7) rfl (yl (dj:=101) (b:=true) rfl rfl (cVb (by rw [hc403]; rfl))) rfl ?_
 refine t_no (k:=8) rfl (yl (dj:=101) (b:=true) rfl rfl (cVb (by rw [hc403]; rfl))) rfl ?_
 refine t_no0 (k:=9) rfl (yn (dj:=106) rfl rfl) ?_
 refine t_no0 (k:=10) rfl (yn (dj:=106) rfl rfl) ?_
 refine t_eff (k:=11) rfl ?_
 refine g_no0 (yn (dj:=106) rfl rfl) ?_
 refine t_new (S':=fun u => St H394 u (obj g363 47 [.int .u64 ((((((hasT e89 v.ID).getD view0).ID).N):Nat):Int),.int .i64 ((((hasT e89 v.ID).getD view0).ID).P),.int .u16 (((((hasT e89 v.ID).getD view0).Set):Nat):Int)]::obj g17 47 [.int .u64 ((v.ID.N:Nat):Int),.int .i64 v.ID.P,.int .u16 ((v.Set:Nat):Int)]::L)) rfl hs402 ?_
 refine t_no0 (k:=12) rfl (yn (dj:=106) rfl rfl) ?_
 refine t_no (k:=13) rfl (yl (dj:=101) (b:=true) rfl rfl (cVb (by rw [hc403]; rfl))) rfl ?_
 refine t_st (k:=14) (v:=.bool true) rfl rfl (fun w hs => (x_pick_t (.tmp rfl (cVb (by rw [hc403]; rfl))) .const)) ?_
 refine t_st (k:=15) (v:=.bool true) rfl rfl (fun w hs => (x_move (.tmp rfl rfl))) ?_
 refine t_no (k:=16) rfl (yl (dj:=113) (b:=true) rfl rfl rfl) rfl ?_
 refine t_no (k:=17) rfl (yl (dj:=113) (b:=true) rfl rfl rfl) rfl ?_
 refine t_no (k:=18) rfl (yl (dj:=113) (b:=true) rfl rfl rfl) rfl ?_
 refine t_no (k:=19) rfl (yl (dj:=113) (b:=true) rfl rfl rfl) rfl ?_
 refine t_no (k:=20) rfl (yl (dj:=113) (b:=true) rfl rfl rfl) rfl ?_
 refine t_no (k:=21) rfl (yl (dj:=113) (b:=true) rfl rfl rfl) rfl ?_
 refine t_no (k:=22) rfl (yl (dj:=113) (b:=true) rfl rfl rfl) rfl ?_
 refine t_no (k:=23) rfl (yl (dj:=113) (b:=true) rfl rfl rfl) rfl ?_
 refine t_eff (k:=24) rfl ?_
 refine g_no (yl (dj:=113) (b:=true) rfl rfl rfl) rfl ?_
 refine t_on (S':=fun u => St H394 u (obj g363 47 [.int .u64 ((((((hasT e89 v.ID).getD view0).ID).N):Nat):Int),.int .i64 ((((hasT e89 v.ID).getD view0).ID).P),.int .u16 (((((hasT e89 v.ID).getD view0).Set):Nat):Int)]::obj g17 47 [.int .u64 ((v.ID.N:Nat):Int),.int .i64 v.ID.P,.int .u16 ((v.Set:Nat):Int)]::L)) (fun u hu => hu) hs402 ?_
 refine t_eff (k:=25) rfl ?_
 refine g_no (yl (dj:=113) (b:=true) rfl rfl rfl) rfl ?_
 refine t_on (S':=fun u => St H394 u (obj g363 47 [.int .u64 ((((((hasT e89 v.ID).getD view0).ID).N):Nat):Int),.int .i64 ((((hasT e89 v.ID).getD view0).ID).P),.int .u16 (((((hasT e89 v.ID).getD view0).Set):Nat):Int)]::obj g17 47 [.int .u64 ((v.ID.N:Nat):Int),.int .i64 v.ID.P,.int .u16 ((v.Set:Nat):Int)]::L)) (fun u hu => hu) hs402 ?_
 refine t_no (k:=26) rfl (yl (dj:=113) (b:=true) rfl rfl rfl) rfl ?_
 refine t_st (k:=27) (v:=.bool true) rfl rfl (fun w hs => (x_pick_t (.tmp rfl rfl) .const)) ?_
 refine t_nil ?_
 refine n_then (c_cond_t (t:=true) (.tmp rfl rfl) rfl ?_)
 refine c_seq (c_region (st (v:=.bool false) (x_assign .const) ?_))
 refine c_nil (n_then (c_ret (r_then (r_block (r_then (r_then (r_block (r_then (leave_ret (res_one (v:=.bool false) rfl (.mk rfl rfl)) ?_)))))))))
 have hans601:inviewT tr i v = false:=inview_no2 (j:=j) (by omega) ((seeT_is hx9 hx93).trans (see_bad1 hc400 (of_decide_eq_false hc403)))
 rw [hans601]
 exact ⟨H394,(((((hle27.trans hle38).trans hg78).trans hle371).trans hle387).trans hle395),rfl,hs402.drop.drop⟩
 refine c_cond_t (t:=true) (.tmp rfl (cVb (by rw [hc400]; rfl))) rfl ?_
 refine c_seq (c_seq (c_region (st (v:=.slice A396 n397 c398) (x_move (.tmp rfl rfl)) ?_)))
 refine st (v:=.int .i64 ((n397:Nat):Int)) (x_len (n:=n397) Tryd.underlying25 (.tmp rfl rfl)) ?_
 refine st (v:=.bool (decide ((0:Int) < ((n397:Nat):Int)))) (x_gtr (k:=.i64) (a:=((n397:Nat):Int)) (b:=0) (.tmp rfl rfl) .const) ?_
 refine st (v:=.bool (decide ((0:Int) < ((n397:Nat):Int)))) (x_move (.tmp rfl rfl)) ?_
 refine jw 9 (fun ρ w => ρ 97 = .bool ((decide ((0:Int) < ((n397:Nat):Int))) || ((decide ((0:Int) < ((n40:Nat):Int))) && (has v.Set ((j:Nat):Int))))∧ρ 0 = .slice A_tr n_tr c_tr∧ρ 1 = .int .i64 ((i:Nat):Int)∧ρ 5 = .pointer (some ⟨g17,0,none⟩)∧ρ 7 = .slice A28 n29 c30∧ρ 8 = .int .i64 ((n40:Nat):Int)∧ρ 10 = .int .i64 ((j:Nat):Int)∧St H394 w (obj g363 47 [.int .u64 ((((((hasT e89 v.ID).getD view0).ID).N):Nat):Int),.int .i64 ((((hasT e89 v.ID).getD view0).ID).P),.int .u16 (((((hasT e89 v.ID).getD view0).Set):Nat):Int)]::obj g17 47 [.int .u64 ((v.ID.N:Nat):Int),.int .i64 v.ID.P,.int .u16 ((v.Set:Nat):Int)]::L)) ?_ ?_
 rcases Bool.eq_false_or_eq_true (decide ((0:Int) < ((n397:Nat):Int))) with hc602 | hc602
 have hp602:(0:Int) < ((n397:Nat):Int):=of_decide_eq_true hc602
 refine g_no (yk 88 true rfl rfl hc602) rfl ?_
 refine g_no (yk 88 true rfl rfl hc602) rfl ?_
 refine g_no (yk 88 true rfl rfl hc602) rfl ?_
 refine g_no0 (yn (dj:=91) rfl rfl) ?_
 refine g_no0 (yn (dj:=91) rfl rfl) ?_
 refine g_no0 (yn (dj:=91) rfl rfl) ?_
 refine g_no0 (yn (dj:=91) rfl rfl) ?_
 refine g_no (yk 88 true rfl rfl hc602) rfl ?_
 refine st (v:=.bool true) (x_pick_t (.tmp rfl (cVb hc602)) .const) ?_
 exact jw_end ⟨(cVb (jor_t hc602)),hρ79,hρ80,hρ81,hρ82,hρ83,hρ84,hs393⟩
 have hp602:¬ ((0:Int) < ((n397:Nat):Int)):=of_decide_eq_false hc602
 refine g_yes (yk 88 false rfl rfl hc602) ?_
 refine st (v:=.int .i64 ((n40:Nat):Int)) (x_move (.tmp rfl hρ83)) ?_
 refine g_yes (yk 88 false rfl rfl hc602) ?_
 refine st (v:=.bool (decide ((0:Int) < ((n40:Nat):Int)))) (x_gtr (k:=.i64) (a:=((n40:Nat):Int)) (b:=0) (.tmp rfl rfl) .const) ?_
 refine g_yes (yk 88 false rfl rfl hc602) ?_
 refine st (v:=.bool (decide ((0:Int) < ((n40:Nat):Int)))) (x_move (.tmp rfl rfl)) ?_
 refine jw 5 (fun ρ w => ρ 96 = .bool ((decide ((0:Int) < ((n40:Nat):Int))) && (has v.Set ((j:Nat):Int)))∧ρ 0 = .slice A_tr n_tr c_tr∧ρ 1 = .int .i64 ((i:Nat):Int)∧ρ 5 = .pointer (some ⟨g17,0,none⟩)∧ρ 7 = .slice A28 n29 c30∧ρ 8 = .int .i64 ((n40:Nat):Int)∧ρ 10 = .int .i64 ((j:Nat):Int)∧ρ 88 = .bool false∧St H394 w (obj g363 47 [.int .u64 ((((((hasT e89 v.ID).getD view0).ID).N):Nat):Int),.int .i64 ((((hasT e89 v.ID).getD view0).ID).P),.int .u16 (((((hasT e89 v.ID).getD view0).Set):Nat):Int)]::obj g17 47 [.int .u64 ((v.ID.N:Nat):Int),.int .i64 v.ID.P,.int .u16 ((v.Set:Nat):Int)]::L)) ?_ ?_
 rcases Bool.eq_false_or_eq_true (decide ((0:Int) < ((n40:Nat):Int))) with hc603 | hc603
 have hp603:(0:Int) < ((n40:Nat):Int):=of_decide_eq_true hc603
 refine g_yes (yk 91 true rfl rfl hc603) ?_
 refine st (v:=.pointer (some ⟨g17,0 + 2,none⟩)) (fa47_1 (.tmp rfl hρ81)) ?_
 refine g_yes (yk 91 true rfl rfl hc603) ?_
 refine st (v:=.int .u16 ((v.Set:Nat):Int)) (ld45 (.tmp rfl rfl) (hs393.cell 1 rfl (0 + 2) rfl)) ?_
 refine g_yes (yk 91 true rfl rfl hc603) ?_
 refine st (v:=.int .i64 ((j:Nat):Int)) (x_move (.tmp rfl hρ84)) ?_
 refine g_yes (yk 91 true rfl rfl hc603) ?_
 refine st_c cb40 .func (evs2 (.tmp rfl rfl) (.tmp rfl rfl)) (rhas_spec hs393 v.Set ((j:Nat):Int) b4 (by omega)) ?_
 rintro e w604 ⟨rfl,hs605⟩
 refine ⟨_,rfl,?_⟩
 refine g_yes (yk 88 false rfl rfl hc602) ?_
 refine st (v:=.bool (has v.Set ((j:Nat):Int))) (x_pick_t (.tmp rfl (cVb hc603)) (.tmp rfl rfl)) ?_
 exact jw_end ⟨(cVb (jand_t hc603)),hρ79,hρ80,hρ81,hρ82,hρ83,hρ84,(cVb hc602),hs605⟩
 have hp603:¬ ((0:Int) < ((n40:Nat):Int)):=of_decide_eq_false hc603
 refine g_no (yk 91 false rfl rfl hc603) rfl ?_
 refine g_no (yk 91 false rfl rfl hc603) rfl ?_
 refine g_no (yk 91 false rfl rfl hc603) rfl ?_
 refine g_no (yk 91 false rfl rfl hc603) rfl ?_
 refine g_yes (yk 88 false rfl rfl hc602) ?_
 refine st (v:=.bool false) (x_pick_f (.tmp rfl (cVb hc603)) .const) ?_
 exact jw_end ⟨(cVb (jand_f hc603)),hρ79,hρ80,hρ81,hρ82,hρ83,hρ84,(cVb hc602),hs393⟩
 rintro ρ w ⟨hρ606,hρ607,hρ608,hρ609,hρ610,hρ611,hρ612,hρ613,hs614⟩
 refine st (v:=.bool ((decide ((0:Int) < ((n40:Nat):Int))) && (has v.Set ((j:Nat):Int)))) (x_pick_f (.tmp rfl hρ613) (.tmp rfl hρ606)) ?_
 exact jw_end ⟨(cVb (jor_f hc602)),hρ607,hρ608,hρ609,hρ610,hρ611,hρ612,hs614⟩
 rintro ρ w ⟨hρ615,hρ616,hρ617,hρ618,hρ619,hρ620,hρ621,hs622⟩
 refine c_nil (n_then ?_)
 rcases Bool.eq_false_or_eq_true ((decide ((0:Int) < ((n397:Nat):Int))) || ((decide ((0:Int) < ((n40:Nat):Int))) && (has v.Set ((j:Nat):Int)))) with hc623 | hc623
 have hp623:((0:Int) < ((n397:Nat):Int)) ∨ (((0:Int) < ((n40:Nat):Int))∧((has v.Set ((j:Nat):Int)) = true)):=((J_or decide_eq_true_iff (J_and decide_eq_true_iff Iff.rfl))).1 hc623
 refine c_cond_t (t:=true) (.tmp rfl (hρ615.trans (cVb hc623))) rfl ?_
 refine c_seq (c_region (st (v:=.bool false) (x_assign .const) ?_))
 refine c_nil (n_then (c_ret (r_then (r_then (r_block (r_then (r_then (r_block (r_then (leave_ret (res_one (v:=.bool false) rfl (.mk rfl rfl)) ?_))))))))))
 have hans624:inviewT tr i v = false:=inview_no2 (j:=j) (by omega) ((seeT_is hx9 hx93).trans (see_none_bad hc400 (by have h9:=hc623; simp only [Bool.or_eq_true,Bool.and_eq_true,decide_eq_true_eq] at h9; rcases h9 with h9 | h9; exact .inl (by omega); exact .inr ⟨by omega,h9.2⟩)))
 rw [hans624]
 exact ⟨H394,(((((hle27.trans hle38).trans hg78).trans hle371).trans hle387).trans hle395),rfl,hs622.drop.drop⟩
 have hp623:¬ (((0:Int) < ((n397:Nat):Int)) ∨ (((0:Int) < ((n40:Nat):Int))∧((has v.Set ((j:Nat):Int)) = true))):=J_no (J_or decide_eq_true_iff (J_and decide_eq_true_iff Iff.rfl)) hc623
 refine c_cond_f (t:=false) (.tmp rfl (hρ615.trans (cVb hc623))) rfl ?_
 refine c_skip (n_then (c_exit (x_then (x_here (n_then (c_region (st (v:=.int .i64 ((j:Nat):Int)) (x_move (.tmp rfl hρ621)) ?_)))))))
 refine st (v:=.int .i64 (((j + 1):Nat):Int)) (x_add (k:=.i64) (a:=((j:Nat):Int)) (b:=1) (.tmp rfl rfl) .const ((w64 (by omega) (by omega)).trans (by omega))) ?_
 refine st (v:=.int .i64 (((j + 1):Nat):Int)) (x_assign (.tmp rfl rfl)) ?_
 refine c_nil ?_
 refine n_then ⟨_,_,rfl,?_,H394,(j + 1),hρ616,hρ617,hρ618,hρ619,hρ620,rfl,(((hg78.trans hle371).trans hle387).trans hle395),(by omega),(see_next (p:=fun j => seeT tr i v j = true) hse ((seeT_is hx9 hx93).trans (see_none_ok hc400 (by have h9:=hc623; simp only [Bool.or_eq_false_iff,Bool.and_eq_false_iff,decide_eq_false_iff_not] at h9; rintro (h8 | h8); have:=h9.1; omega; rcases h9.2 with h7 | h7; omega; rw [h8.2] at h7; cases h7)))),hs622.drop,rfl⟩
 omega
 have hp86:¬ ((((j:Nat):Int):Int) < ((n_tr:Nat):Int)):=of_decide_eq_false hc86
 refine c_cond_f (t:=false) (.tmp rfl (cVb hc86)) rfl ?_
 refine c_exit (x_then (x_then (x_here (n_then (c_seq (c_seq (c_region (st (v:=.slice A_tr n_tr c_tr) (x_move (.tmp rfl hρ79)) ?_))))))))
 refine st (v:=.int .i64 ((n_tr:Nat):Int)) (x_len (n:=n_tr) Tryd.underlying36 (.tmp rfl rfl)) ?_
 refine st (v:=.int .i64 ((n_tr:Nat):Int)) (x_assign (.tmp rfl rfl)) ?_
 refine c_nil (n_then (c_block (c_loop (fun ρ w mm => ∃ (q:Nat),ρ 5 = .pointer (some ⟨g17,0,none⟩)∧ρ 8 = .int .i64 ((n40:Nat):Int)∧ρ 16 = .int .i64 ((q:Nat):Int)∧(tr.length ≤ q)∧(∀ j:Nat,tr.length ≤ j → j < q → lateT tr i v j = true)∧St H77 w (obj g17 47 [.int .u64 ((v.ID.N:Nat):Int),.int .i64 v.ID.P,.int .u16 ((v.Set:Nat):Int)]::L)∧mm = 16 - q) _ ⟨n_tr,hρ81,hρ83,rfl,(by omega),(fun j h1 h2 => absurd h2 (by omega)),hs85,rfl⟩ ?_)))
 rintro ρ w mm ⟨q,hρ626,hρ627,hρ628,hq,hla,hs629,rfl⟩
 refine c_seq (c_seq (c_region (st (v:=.int .i64 ((q:Nat):Int)) (x_move (.tmp rfl hρ628)) ?_)))
 refine st (v:=.bool (decide ((((q:Nat):Int):Int) < 16))) (x_lss (k:=.i64) (a:=((q:Nat):Int)) (b:=16) (.tmp rfl rfl) .const) ?_
 refine c_nil (n_then ?_)
 rcases Bool.eq_false_or_eq_true (decide ((((q:Nat):Int):Int) < 16)) with hc630 | hc630
 have hp630:(((q:Nat):Int):Int) < 16:=of_decide_eq_true hc630
 refine c_cond_t (t:=true) (.tmp rfl (cVb hc630)) rfl ?_
 refine c_skip (n_then (c_seq (c_block (c_seq (c_region (st (v:=.int .i64 ((n40:Nat):Int)) (x_move (.tmp rfl hρ627)) ?_))))))
 refine st (v:=.bool (decide ((0:Int) < ((n40:Nat):Int)))) (x_gtr (k:=.i64) (a:=((n40:Nat):Int)) (b:=0) (.tmp rfl rfl) .const) ?_
 refine st (v:=.bool (decide ((0:Int) < ((n40:Nat):Int)))) (x_move (.tmp rfl rfl)) ?_
 refine jw 5 (fun ρ w => ρ 177 = .bool ((decide ((0:Int) < ((n40:Nat):Int))) && (has v.Set ((q:Nat):Int)))∧ρ 5 = .pointer (some ⟨g17,0,none⟩)∧ρ 8 = .int .i64 ((n40:Nat):Int)∧ρ 16 = .int .i64 ((q:Nat):Int)∧St H77 w (obj g17 47 [.int .u64 ((v.ID.N:Nat):Int),.int .i64 v.ID.P,.int .u16 ((v.Set:Nat):Int)]::L)) ?_ ?_
 rcases Bool.eq_false_or_eq_true (decide ((0:Int) < ((n40:Nat):Int))) with hc631 | hc631
 have hp631:(0:Int) < ((n40:Nat):Int):=of_decide_eq_true hc631
 refine g_yes (yk 172 true rfl rfl hc631) ?_
 refine st (v:=.pointer (some ⟨g17,0 + 2,none⟩)) (fa47_1 (.tmp rfl hρ626)) ?_
 refine g_yes (yk 172 true rfl rfl hc631) ?_
 refine st (v:=.int .u16 ((v.Set:Nat):Int)) (ld45 (.tmp rfl rfl) (hs629.cell 0 rfl (0 + 2) rfl)) ?_
 refine g_yes (yk 172 true rfl rfl hc631) ?_
 refine st (v:=.int .i64 ((q:Nat):Int)) (x_move (.tmp rfl hρ628)) ?_
 refine g_yes (yk 172 true rfl rfl hc631) ?_
 refine st_c cb40 .func (evs2 (.tmp rfl rfl) (.tmp rfl rfl)) (rhas_spec hs629 v.Set ((q:Nat):Int) b4 (by omega)) ?_
 rintro e w632 ⟨rfl,hs633⟩
 refine ⟨_,rfl,?_⟩
 refine st (v:=.bool (has v.Set ((q:Nat):Int))) (x_pick_t (.tmp rfl (cVb hc631)) (.tmp rfl rfl)) ?_
 exact jw_end ⟨(cVb (jand_t hc631)),hρ626,hρ627,hρ628,hs633⟩
 have hp631:¬ ((0:Int) < ((n40:Nat):Int)):=of_decide_eq_false hc631
 refine g_no (yk 172 false rfl rfl hc631) rfl ?_
 refine g_no (yk 172 false rfl rfl hc631) rfl ?_
 refine g_no (yk 172 false rfl rfl hc631) rfl ?_
 refine g_no (yk 172 false rfl rfl hc631) rfl ?_
 refine st (v:=.bool false) (x_pick_f (.tmp rfl (cVb hc631)) .const) ?_
 exact jw_end ⟨(cVb (jand_f hc631)),hρ626,hρ627,hρ628,hs629⟩
 rintro ρ w ⟨hρ634,hρ635,hρ636,hρ637,hs638⟩
 refine c_nil (n_then ?_)
 rcases Bool.eq_false_or_eq_true ((decide ((0:Int) < ((n40:Nat):Int))) && (has v.Set ((q:Nat):Int))) with hc639 | hc639
 have hp639:((0:Int) < ((n40:Nat):Int))∧((has v.Set ((q:Nat):Int)) = true):=((J_and decide_eq_true_iff Iff.rfl)).1 hc639
 refine c_cond_t (t:=true) (.tmp rfl (hρ634.trans (cVb hc639))) rfl ?_
 refine c_seq (c_region (st (v:=.bool false) (x_assign .const) ?_))
 refine c_nil (n_then (c_ret (r_block (r_then (r_then (r_block (r_then (leave_ret (res_one (v:=.bool false) rfl (.mk rfl rfl)) ?_))))))))
 have hans640:inviewT tr i v = false:=inview_no3 (j:=q) hx9 (by omega) (by omega) (by have h9:=hc639; simp only [Bool.and_eq_true,decide_eq_true_eq] at h9; omega) (by have h9:=hc639; simp only [Bool.and_eq_true,decide_eq_true_eq] at h9; exact h9.2)
 rw [hans640]
 exact ⟨H77,((hle27.trans hle38).trans hg78),rfl,hs638.drop⟩
 have hp639:¬ (((0:Int) < ((n40:Nat):Int))∧((has v.Set ((q:Nat):Int)) = true)):=J_no (J_and decide_eq_true_iff Iff.rfl) hc639
 refine c_cond_f (t:=false) (.tmp rfl (hρ634.trans (cVb hc639))) rfl ?_
 refine c_skip (n_block (n_then (c_region (st (v:=.int .i64 ((q:Nat):Int)) (x_move (.tmp rfl hρ637)) ?_))))
 refine st (v:=.int .i64 (((q + 1):Nat):Int)) (x_add (k:=.i64) (a:=((q:Nat):Int)) (b:=1) (.tmp rfl rfl) .const ((w64 (by omega) (by omega)).trans (by omega))) ?_
 refine st (v:=.int .i64 (((q + 1):Nat):Int)) (x_assign (.tmp rfl rfl)) ?_
 refine c_nil ?_
 refine n_then ⟨_,_,rfl,?_,(q + 1),hρ635,hρ636,rfl,(by omega),(late_next (p:=fun j => lateT tr i v j = true) hla (late_ok hx9 (by rintro ⟨h8,h7⟩; have h9:=hc639; simp only [Bool.and_eq_false_iff,decide_eq_false_iff_not] at h9; rcases h9 with h9 | h9; omega; rw [h7] at h9; cases h9))),hs638,rfl⟩
 omega
 have hp630:¬ ((((q:Nat):Int):Int) < 16):=of_decide_eq_false hc630
 refine c_cond_f (t:=false) (.tmp rfl (cVb hc630)) rfl ?_
 refine c_exit (x_then (x_then (x_here (n_then (c_seq (c_region (st (v:=.bool true) (x_assign .const) ?_)))))))
 refine c_nil (n_then (c_ret (leave_ret (res_one (v:=.bool true) rfl (.mk rfl rfl)) ?_)))
 have hans641:inviewT tr i v = true:=inview_yes hx9 (fun k' x hk' hx => hfr k' x (by omega) hx) (fun j' hj' => hse j' (by omega)) (fun j' h1 h2 => hla j' h1 (by omega))
 rw [hans641]
 exact ⟨H77,((hle27.trans hle38).trans hg78),rfl,hs629.drop⟩
end Go.Proofs.YtnikcgcbkdeeeaaDoor
