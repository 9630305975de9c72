/- Steps of the proofs over the functions of this seat, printed by a program (gen.py) and checked by Lean. -/
import Derived.Test.YtlfihfmmhhcigaaW02
import Derived.Test.YtlfihfmmhhcigaaW00
import Derived.Test.YtlfihfmmhhcigaaW01
import Derived.Test.YtlfihfmmhhcigaaW10
set_option linter.unusedVariables false
set_option linter.unusedSimpArgs false
namespace Go.Proofs.Ytlfihfmmhhcigaa
open Go Go.FM Go.Proofs
attribute [local irreducible] wpList wpQuiet wpS Code.wp Calls
set_option maxHeartbeats 8000000 in
theorem great_spec {H:Hp} {w:World} {L:List Res} (hs:St H w (L)) (f:GFrame) {k_f:List Value} (h_f:kFrame.rep H f k_f) (hsiz:sizeF f ≤ 1048576):Calls Try.prog 10 #[.agg k_f.toArray] w (fun e w' => e = .returned (.bool (greatF f))∧St H w' (L)):=by
 obtain ⟨A14,n15,c16,A19,n20,c21,A23,n24,c25,rfl,b1,⟨b2,b3⟩,b4,⟨b5,b6⟩,b7,b8,⟨b9,b10⟩,b11,⟨b12,b13⟩,hl17,b18,hl22,hl26,b27,b28⟩:=h_f
 have:=hl17.len; have:n15 * 48 ≤ 140737488351232:=hl17.bnd; have:=hl17.le
 have:=hl22.len; have:n20 * 24 ≤ 140737488351232:=hl22.bnd; have:=hl22.le
 have:=hl26.len; have:n24 * 32 ≤ 140737488351232:=hl26.bnd; have:=hl26.le
 refine enter (args:=[.agg #[.int .u8 ((f.Kind:Nat):Int),.int .i64 f.From,.int .u64 ((f.ID.N:Nat):Int),.int .i64 f.ID.P,.int .u16 ((f.Set:Nat):Int),.int .u64 ((f.Cur.N:Nat):Int),.int .i64 f.Cur.P,.int .u64 ((f.Prom.N:Nat):Int),.int .i64 f.Prom.P,.slice A14 n15 c16,.int .u64 ((f.Base:Nat):Int),.slice A19 n20 c21,.slice A23 n24 c25,.int .u64 ((f.Ack:Nat):Int),.int .u64 ((f.Safe:Nat):Int)]]) (N:=92) Try.func10 rfl rfl rfl ?_
 have hsz2:=hsiz
 rw [sizeF_eq] at hsz2
 refine c_seq (c_region (st_m (m_box (cs:=[.int .u8 ((f.Kind:Nat):Int),.int .i64 f.From,.int .u64 ((f.ID.N:Nat):Int),.int .i64 f.ID.P,.int .u16 ((f.Set:Nat):Int),.int .u64 ((f.Cur.N:Nat):Int),.int .i64 f.Cur.P,.int .u64 ((f.Prom.N:Nat):Int),.int .i64 f.Prom.P,.slice A14 n15 c16,.int .u64 ((f.Base:Nat):Int),.slice A19 n20 c21,.slice A23 n24 c25,.int .u64 ((f.Ack:Nat):Int),.int .u64 ((f.Safe:Nat):Int)]) hs (v:=.agg #[.int .u8 ((f.Kind:Nat):Int),.int .i64 f.From,.int .u64 ((f.ID.N:Nat):Int),.int .i64 f.ID.P,.int .u16 ((f.Set:Nat):Int),.int .u64 ((f.Cur.N:Nat):Int),.int .i64 f.Cur.P,.int .u64 ((f.Prom.N:Nat):Int),.int .i64 f.Prom.P,.slice A14 n15 c16,.int .u64 ((f.Base:Nat):Int),.slice A19 n20 c21,.slice A23 n24 c25,.int .u64 ((f.Ack:Nat):Int),.int .u64 ((f.Safe:Nat):Int)]) (.tmp rfl rfl) rfl) ?_))
 rintro _ w30 ⟨g29,rfl,hs32⟩
 refine st (v:=.bool false) (x_assign .const) ?_
 refine c_nil (n_then (c_seq (c_region (st (v:=.pointer (some ⟨g29,0 + 11,none⟩)) (fa30_8 (.tmp rfl rfl)) ?_))))
 refine st (v:=.slice A19 n20 c21) (ld27 (.tmp rfl rfl) (hs32.cell 0 rfl (0 + 11) rfl)) ?_
 refine st (v:=.int .i64 ((n20:Nat):Int)) (x_len (n:=n20) Try.underlying27 (.tmp rfl rfl)) ?_
 refine st (v:=.pointer (some ⟨g29,0 + 12,none⟩)) (fa30_9 (.tmp rfl rfl)) ?_
 refine st (v:=.slice A23 n24 c25) (ld28 (.tmp rfl rfl) (hs32.cell 0 rfl (0 + 12) rfl)) ?_
 refine st (v:=.int .i64 ((n24:Nat):Int)) (x_len (n:=n24) Try.underlying28 (.tmp rfl rfl)) ?_
 refine st (v:=.int .i64 (((n20 + n24):Nat):Int)) (x_add (k:=.i64) (a:=((n20:Nat):Int)) (b:=((n24:Nat):Int)) (.tmp rfl rfl) (.tmp rfl rfl) ((w64 (by omega) (by omega)).trans (by omega))) ?_
 refine st (v:=.pointer (some ⟨g29,0 + 9,none⟩)) (fa30_6 (.tmp rfl rfl)) ?_
 refine st (v:=.slice A14 n15 c16) (ld26 (.tmp rfl rfl) (hs32.cell 0 rfl (0 + 9) rfl)) ?_
 refine st (v:=.int .i64 ((n15:Nat):Int)) (x_len (n:=n15) Try.underlying26 (.tmp rfl rfl)) ?_
 refine st (v:=.int .i64 ((((n20 + n24) + n15):Nat):Int)) (x_add (k:=.i64) (a:=(((n20 + n24):Nat):Int)) (b:=((n15:Nat):Int)) (.tmp rfl rfl) (.tmp rfl rfl) ((w64 (by omega) (by omega)).trans (by omega))) ?_
 refine st (v:=.int .i64 ((((n20 + n24) + n15):Nat):Int)) (x_assign (.tmp rfl rfl)) ?_
 refine c_nil (n_then (c_seq (c_seq (c_region (st (v:=.int .i64 0) (x_assign .const) ?_)))))
 refine c_nil (n_then (c_block (c_loop (fun ρ w mm => ∃ (n:Nat) (i:Nat),ρ 1 = .pointer (some ⟨g29,0,none⟩)∧ρ 3 = .int .i64 ((n:Nat):Int)∧ρ 4 = .int .i64 ((i:Nat):Int)∧(i ≤ f.Msgs.length)∧(n = f.Msgs.length + f.Items.length + f.States.length + zT List.length f.Msgs i)∧St H w (obj g29 30 [.int .u8 ((f.Kind:Nat):Int),.int .i64 f.From,.int .u64 ((f.ID.N:Nat):Int),.int .i64 f.ID.P,.int .u16 ((f.Set:Nat):Int),.int .u64 ((f.Cur.N:Nat):Int),.int .i64 f.Cur.P,.int .u64 ((f.Prom.N:Nat):Int),.int .i64 f.Prom.P,.slice A14 n15 c16,.int .u64 ((f.Base:Nat):Int),.slice A19 n20 c21,.slice A23 n24 c25,.int .u64 ((f.Ack:Nat):Int),.int .u64 ((f.Safe:Nat):Int)]::L)∧mm = f.Msgs.length - i) _ ⟨((n20 + n24) + n15),0,rfl,rfl,rfl,(by omega),(show _ = _ + 0 by omega),hs32,rfl⟩ ?_)))
 rintro ρ w mm ⟨n,i,hρ34,hρ35,hρ36,hi,hn,hs37,rfl⟩
 refine c_seq (c_seq (c_region (st (v:=.int .i64 ((i:Nat):Int)) (x_move (.tmp rfl hρ36)) ?_)))
 refine st (v:=.pointer (some ⟨g29,0 + 11,none⟩)) (fa30_8 (.tmp rfl hρ34)) ?_
 refine st (v:=.slice A19 n20 c21) (ld27 (.tmp rfl rfl) (hs37.cell 0 rfl (0 + 11) rfl)) ?_
 refine st (v:=.int .i64 ((n20:Nat):Int)) (x_len (n:=n20) Try.underlying27 (.tmp rfl rfl)) ?_
 refine st (v:=.bool (decide ((((i:Nat):Int):Int) < ((n20:Nat):Int)))) (x_lss (k:=.i64) (a:=((i:Nat):Int)) (b:=((n20:Nat):Int)) (.tmp rfl rfl) (.tmp rfl rfl)) ?_
 refine c_nil (n_then ?_)
 rcases Bool.eq_false_or_eq_true (decide ((((i:Nat):Int):Int) < ((n20:Nat):Int))) with hc38 | hc38
 have hp38:(((i:Nat):Int):Int) < ((n20:Nat):Int):=of_decide_eq_true hc38
 refine c_cond_t (t:=true) (.tmp rfl (cVb hc38)) rfl ?_
 refine c_skip (n_then (c_seq (c_block (c_region (st (v:=.int .i64 ((n:Nat):Int)) (x_move (.tmp rfl hρ35)) ?_)))))
 refine st (v:=.pointer (some ⟨g29,0 + 11,none⟩)) (fa30_8 (.tmp rfl hρ34)) ?_
 refine st (v:=.slice A19 n20 c21) (ld27 (.tmp rfl rfl) (hs37.cell 0 rfl (0 + 11) rfl)) ?_
 refine st (v:=.int .i64 ((i:Nat):Int)) (x_move (.tmp rfl hρ36)) ?_
 obtain ⟨e39,b40,o41,cs42,hx43,hA44,hr45,hat46⟩:=hl22.get (i:=i) (by omega)
 obtain ⟨A47,n48,c49,rfl,hy50⟩:=hr45
 have:=hy50.len; have:=hy50.bnd; have:=hy50.le
 have hat46x:∀ {w:World} {L:List Res},St H w L → At w ⟨b40,o41 + i * 1,none⟩ [.slice A47 n48 c49]:=fun h => hat46 h
 have hza:=zT_next (g:=List.length) hx43; have hzb:=zT_le List.length f.Msgs (i + 1)
 refine st (v:=.pointer (some ⟨b40,(o41 + i * 1),none⟩)) (ixo27 (.tmp rfl rfl) hA44 (i:=((i:Nat):Int)) (.tmp rfl rfl) (by omega) (by omega) (by omega)) ?_
 refine st (v:=.slice A47 n48 c49) (ld33 (.tmp rfl rfl) ((hat46x hs37).cell 0 rfl)) ?_
 refine st (v:=.int .i64 ((n48:Nat):Int)) (x_len (n:=n48) Try.underlying33 (.tmp rfl rfl)) ?_
 refine st (v:=.int .i64 (((n + n48):Nat):Int)) (x_add (k:=.i64) (a:=((n:Nat):Int)) (b:=((n48:Nat):Int)) (.tmp rfl rfl) (.tmp rfl rfl) ((w64 (by omega) (by omega)).trans (by omega))) ?_
 refine st (v:=.int .i64 (((n + n48):Nat):Int)) (x_assign (.tmp rfl rfl)) ?_
 refine c_nil (n_block (n_then (c_region (st (v:=.int .i64 ((i:Nat):Int)) (x_move (.tmp rfl hρ36)) ?_))))
 refine st (v:=.int .i64 (((i + 1):Nat):Int)) (x_add (k:=.i64) (a:=((i:Nat):Int)) (b:=1) (.tmp rfl rfl) .const ((w64 (by omega) (by omega)).trans (by omega))) ?_
 refine st (v:=.int .i64 (((i + 1):Nat):Int)) (x_assign (.tmp rfl rfl)) ?_
 refine c_nil ?_
 refine n_then ⟨_,_,rfl,?_,(n + n48),(i + 1),hρ34,rfl,rfl,(by omega),(by rw [zT_next hx43]; omega),hs37,rfl⟩
 omega
 have hp38:¬ ((((i:Nat):Int):Int) < ((n20:Nat):Int)):=of_decide_eq_false hc38
 refine c_cond_f (t:=false) (.tmp rfl (cVb hc38)) rfl ?_
 refine c_exit (x_then (x_then (x_here (n_then (c_seq (c_seq (c_region (st (v:=.int .i64 0) (x_assign .const) ?_))))))))
 refine c_nil (n_then (c_block ?_))
 have hz1:=zT_all (g:=List.length) (show f.Msgs.length ≤ i by omega)
 refine c_loop (fun ρ w mm => ∃ (n2:Nat) (j:Nat),ρ 1 = .pointer (some ⟨g29,0,none⟩)∧ρ 3 = .int .i64 ((n2:Nat):Int)∧ρ 5 = .int .i64 ((j:Nat):Int)∧(j ≤ f.Items.length)∧(n2 = f.Msgs.length + f.Items.length + f.States.length + (f.Msgs.map List.length).sum + zT gM f.Items j)∧St H w (obj g29 30 [.int .u8 ((f.Kind:Nat):Int),.int .i64 f.From,.int .u64 ((f.ID.N:Nat):Int),.int .i64 f.ID.P,.int .u16 ((f.Set:Nat):Int),.int .u64 ((f.Cur.N:Nat):Int),.int .i64 f.Cur.P,.int .u64 ((f.Prom.N:Nat):Int),.int .i64 f.Prom.P,.slice A14 n15 c16,.int .u64 ((f.Base:Nat):Int),.slice A19 n20 c21,.slice A23 n24 c25,.int .u64 ((f.Ack:Nat):Int),.int .u64 ((f.Safe:Nat):Int)]::L)∧mm = f.Items.length - j) _ ⟨n,0,hρ34,hρ35,rfl,(by omega),(show _ = _ + 0 by omega),hs37,rfl⟩ ?_
 rintro ρ w mm ⟨n2,j,hρ52,hρ53,hρ54,hj,hn2,hs55,rfl⟩
 refine c_seq (c_seq (c_region (st (v:=.int .i64 ((j:Nat):Int)) (x_move (.tmp rfl hρ54)) ?_)))
 refine st (v:=.pointer (some ⟨g29,0 + 12,none⟩)) (fa30_9 (.tmp rfl hρ52)) ?_
 refine st (v:=.slice A23 n24 c25) (ld28 (.tmp rfl rfl) (hs55.cell 0 rfl (0 + 12) rfl)) ?_
 refine st (v:=.int .i64 ((n24:Nat):Int)) (x_len (n:=n24) Try.underlying28 (.tmp rfl rfl)) ?_
 refine st (v:=.bool (decide ((((j:Nat):Int):Int) < ((n24:Nat):Int)))) (x_lss (k:=.i64) (a:=((j:Nat):Int)) (b:=((n24:Nat):Int)) (.tmp rfl rfl) (.tmp rfl rfl)) ?_
 refine c_nil (n_then ?_)
 rcases Bool.eq_false_or_eq_true (decide ((((j:Nat):Int):Int) < ((n24:Nat):Int))) with hc56 | hc56
 have hp56:(((j:Nat):Int):Int) < ((n24:Nat):Int):=of_decide_eq_true hc56
 refine c_cond_t (t:=true) (.tmp rfl (cVb hc56)) rfl ?_
 refine c_skip (n_then (c_seq (c_block (c_region (st (v:=.int .i64 ((n2:Nat):Int)) (x_move (.tmp rfl hρ53)) ?_)))))
 refine st (v:=.pointer (some ⟨g29,0 + 12,none⟩)) (fa30_9 (.tmp rfl hρ52)) ?_
 refine st (v:=.slice A23 n24 c25) (ld28 (.tmp rfl rfl) (hs55.cell 0 rfl (0 + 12) rfl)) ?_
 refine st (v:=.int .i64 ((j:Nat):Int)) (x_move (.tmp rfl hρ54)) ?_
 obtain ⟨e57,b58,o59,cs60,hx61,hA62,hr63,hat64⟩:=hl26.get (i:=j) (by omega)
 obtain ⟨A67,n68,c69,rfl,⟨b65,b66⟩,hy70⟩:=hr63
 have:=hy70.len; have:=hy70.bnd; have:=hy70.le
 have hat64x:∀ {w:World} {L:List Res},St H w L → At w ⟨b58,o59 + j * 2,none⟩ [.int .i64 e57.From,.slice A67 n68 c69]:=fun h => hat64 h
 have hza:=zT_next (g:=gM) hx61; have hzb:=zT_le gM f.Items (j + 1); have hgm:gM e57 = e57.M.length:=rfl
 refine st (v:=.pointer (some ⟨b58,(o59 + j * 2),none⟩)) (ixo28 (.tmp rfl rfl) hA62 (i:=((j:Nat):Int)) (.tmp rfl rfl) (by omega) (by omega) (by omega)) ?_
 refine st (v:=.pointer (some ⟨b58,(o59 + j * 2) + 1,none⟩)) (fa49_1 (.tmp rfl rfl)) ?_
 refine st (v:=.slice A67 n68 c69) (ld33 (.tmp rfl rfl) ((hat64x hs55).cell 1 rfl)) ?_
 refine st (v:=.int .i64 ((n68:Nat):Int)) (x_len (n:=n68) Try.underlying33 (.tmp rfl rfl)) ?_
 refine st (v:=.int .i64 (((n2 + n68):Nat):Int)) (x_add (k:=.i64) (a:=((n2:Nat):Int)) (b:=((n68:Nat):Int)) (.tmp rfl rfl) (.tmp rfl rfl) ((w64 (by omega) (by omega)).trans (by omega))) ?_
 refine st (v:=.int .i64 (((n2 + n68):Nat):Int)) (x_assign (.tmp rfl rfl)) ?_
 refine c_nil (n_block (n_then (c_region (st (v:=.int .i64 ((j:Nat):Int)) (x_move (.tmp rfl hρ54)) ?_))))
 refine st (v:=.int .i64 (((j + 1):Nat):Int)) (x_add (k:=.i64) (a:=((j:Nat):Int)) (b:=1) (.tmp rfl rfl) .const ((w64 (by omega) (by omega)).trans (by omega))) ?_
 refine st (v:=.int .i64 (((j + 1):Nat):Int)) (x_assign (.tmp rfl rfl)) ?_
 refine c_nil ?_
 refine n_then ⟨_,_,rfl,?_,(n2 + n68),(j + 1),hρ52,rfl,rfl,(by omega),(by rw [zT_next hx61]; show _ = _ + (_ + e57.M.length); omega),hs55,rfl⟩
 omega
 have hp56:¬ ((((j:Nat):Int):Int) < ((n24:Nat):Int)):=of_decide_eq_false hc56
 refine c_cond_f (t:=false) (.tmp rfl (cVb hc56)) rfl ?_
 refine c_exit (x_then (x_then (x_here (n_then (c_seq (c_seq (c_region (st (v:=.int .i64 0) (x_assign .const) ?_))))))))
 refine c_nil (n_then (c_block ?_))
 have hz2:=zT_all (g:=gM) (show f.Items.length ≤ j by omega)
 refine c_loop (fun ρ w mm => ∃ (n3:Nat) (q:Nat),ρ 1 = .pointer (some ⟨g29,0,none⟩)∧ρ 3 = .int .i64 ((n3:Nat):Int)∧ρ 6 = .int .i64 ((q:Nat):Int)∧(q ≤ f.States.length)∧(n3 = f.Msgs.length + f.Items.length + f.States.length + (f.Msgs.map List.length).sum + (f.Items.map gM).sum + zT gS f.States q)∧St H w (obj g29 30 [.int .u8 ((f.Kind:Nat):Int),.int .i64 f.From,.int .u64 ((f.ID.N:Nat):Int),.int .i64 f.ID.P,.int .u16 ((f.Set:Nat):Int),.int .u64 ((f.Cur.N:Nat):Int),.int .i64 f.Cur.P,.int .u64 ((f.Prom.N:Nat):Int),.int .i64 f.Prom.P,.slice A14 n15 c16,.int .u64 ((f.Base:Nat):Int),.slice A19 n20 c21,.slice A23 n24 c25,.int .u64 ((f.Ack:Nat):Int),.int .u64 ((f.Safe:Nat):Int)]::L)∧mm = f.States.length - q) _ ⟨n2,0,hρ52,hρ53,rfl,(by omega),(show _ = _ + 0 by omega),hs55,rfl⟩ ?_
 rintro ρ w mm ⟨n3,q,hρ72,hρ73,hρ74,hq,hn3,hs75,rfl⟩
 refine c_seq (c_seq (c_region (st (v:=.int .i64 ((q:Nat):Int)) (x_move (.tmp rfl hρ74)) ?_)))
 refine st (v:=.pointer (some ⟨g29,0 + 9,none⟩)) (fa30_6 (.tmp rfl hρ72)) ?_
 refine st (v:=.slice A14 n15 c16) (ld26 (.tmp rfl rfl) (hs75.cell 0 rfl (0 + 9) rfl)) ?_
 refine st (v:=.int .i64 ((n15:Nat):Int)) (x_len (n:=n15) Try.underlying26 (.tmp rfl rfl)) ?_
 refine st (v:=.bool (decide ((((q:Nat):Int):Int) < ((n15:Nat):Int)))) (x_lss (k:=.i64) (a:=((q:Nat):Int)) (b:=((n15:Nat):Int)) (.tmp rfl rfl) (.tmp rfl rfl)) ?_
 refine c_nil (n_then ?_)
 rcases Bool.eq_false_or_eq_true (decide ((((q:Nat):Int):Int) < ((n15:Nat):Int))) with hc76 | hc76
 have hp76:(((q:Nat):Int):Int) < ((n15:Nat):Int):=of_decide_eq_true hc76
 refine c_cond_t (t:=true) (.tmp rfl (cVb hc76)) rfl ?_
 refine c_skip (n_then (c_seq (c_block (c_seq (c_region (st (v:=.int .i64 ((n3:Nat):Int)) (x_move (.tmp rfl hρ73)) ?_))))))
 refine st (v:=.pointer (some ⟨g29,0 + 9,none⟩)) (fa30_6 (.tmp rfl hρ72)) ?_
 refine st (v:=.slice A14 n15 c16) (ld26 (.tmp rfl rfl) (hs75.cell 0 rfl (0 + 9) rfl)) ?_
 refine st (v:=.int .i64 ((q:Nat):Int)) (x_move (.tmp rfl hρ74)) ?_
 obtain ⟨e77,b78,o79,cs80,hx81,hA82,hr83,hat84⟩:=hl17.get (i:=q) (by omega)
 obtain ⟨A90,n91,c92,rfl,b85,⟨b86,b87⟩,⟨b88,b89⟩,hl93⟩:=hr83
 have:=hl93.len; have:n91 * 32 ≤ 140737488351232:=hl93.bnd; have:=hl93.le
 have hat84x:∀ {w:World} {L:List Res},St H w L → At w ⟨b78,o79 + q * 4,none⟩ [.int .u64 ((e77.V.N:Nat):Int),.int .i64 e77.V.P,.int .i64 e77.Floor,.slice A90 n91 c92]:=fun h => hat84 h
 have hza:=zT_next (g:=gS) hx81; have hzb:=zT_le gS f.States (q + 1); have hgs:gS e77 = e77.Items.length + (e77.Items.map gM).sum:=rfl
 refine st (v:=.pointer (some ⟨b78,(o79 + q * 4),none⟩)) (ixo26 (.tmp rfl rfl) hA82 (i:=((q:Nat):Int)) (.tmp rfl rfl) (by omega) (by omega) (by omega)) ?_
 refine st (v:=.pointer (some ⟨b78,(o79 + q * 4) + 3,none⟩)) (fa52_2 (.tmp rfl rfl)) ?_
 refine st (v:=.slice A90 n91 c92) (ld28 (.tmp rfl rfl) ((hat84x hs75).cell 3 rfl)) ?_
 refine st (v:=.int .i64 ((n91:Nat):Int)) (x_len (n:=n91) Try.underlying28 (.tmp rfl rfl)) ?_
 refine st (v:=.int .i64 (((n3 + n91):Nat):Int)) (x_add (k:=.i64) (a:=((n3:Nat):Int)) (b:=((n91:Nat):Int)) (.tmp rfl rfl) (.tmp rfl rfl) ((w64 (by omega) (by omega)).trans (by omega))) ?_
 refine st (v:=.int .i64 (((n3 + n91):Nat):Int)) (x_assign (.tmp rfl rfl)) ?_
 refine c_nil (n_then (c_seq (c_region (st (v:=.int .i64 0) (x_assign .const) ?_))))
 refine c_nil (n_then (c_block ?_))
 have hzq:=zT_next (g:=gS) hx81; have hzl:=zT_le gS f.States (q + 1); have hgs:gS e77 = e77.Items.length + (e77.Items.map gM).sum:=rfl
 refine c_loop (fun ρ w mm => ∃ (n4:Nat) (k:Nat),ρ 1 = .pointer (some ⟨g29,0,none⟩)∧ρ 3 = .int .i64 ((n4:Nat):Int)∧ρ 6 = .int .i64 ((q:Nat):Int)∧ρ 7 = .int .i64 ((k:Nat):Int)∧(k ≤ e77.Items.length)∧(n4 = f.Msgs.length + f.Items.length + f.States.length + (f.Msgs.map List.length).sum + (f.Items.map gM).sum + zT gS f.States q + e77.Items.length + zT gM e77.Items k)∧St H w (obj g29 30 [.int .u8 ((f.Kind:Nat):Int),.int .i64 f.From,.int .u64 ((f.ID.N:Nat):Int),.int .i64 f.ID.P,.int .u16 ((f.Set:Nat):Int),.int .u64 ((f.Cur.N:Nat):Int),.int .i64 f.Cur.P,.int .u64 ((f.Prom.N:Nat):Int),.int .i64 f.Prom.P,.slice A14 n15 c16,.int .u64 ((f.Base:Nat):Int),.slice A19 n20 c21,.slice A23 n24 c25,.int .u64 ((f.Ack:Nat):Int),.int .u64 ((f.Safe:Nat):Int)]::L)∧mm = e77.Items.length - k) _ ⟨(n3 + n91),0,hρ72,rfl,hρ74,rfl,(by omega),(show _ = _ + 0 by omega),hs75,rfl⟩ ?_
 rintro ρ w mm ⟨n4,k,hρ95,hρ96,hρ97,hρ98,hk,hn4,hs99,rfl⟩
 refine c_seq (c_seq (c_region (st (v:=.int .i64 ((k:Nat):Int)) (x_move (.tmp rfl hρ98)) ?_)))
 refine st (v:=.pointer (some ⟨g29,0 + 9,none⟩)) (fa30_6 (.tmp rfl hρ95)) ?_
 refine st (v:=.slice A14 n15 c16) (ld26 (.tmp rfl rfl) (hs99.cell 0 rfl (0 + 9) rfl)) ?_
 refine st (v:=.int .i64 ((q:Nat):Int)) (x_move (.tmp rfl hρ97)) ?_
 refine st (v:=.pointer (some ⟨b78,(o79 + q * 4),none⟩)) (ixo26 (.tmp rfl rfl) hA82 (i:=((q:Nat):Int)) (.tmp rfl rfl) (by omega) (by omega) (by omega)) ?_
 refine st (v:=.pointer (some ⟨b78,(o79 + q * 4) + 3,none⟩)) (fa52_2 (.tmp rfl rfl)) ?_
 refine st (v:=.slice A90 n91 c92) (ld28 (.tmp rfl rfl) ((hat84x hs99).cell 3 rfl)) ?_
 refine st (v:=.int .i64 ((n91:Nat):Int)) (x_len (n:=n91) Try.underlying28 (.tmp rfl rfl)) ?_
 refine st (v:=.bool (decide ((((k:Nat):Int):Int) < ((n91:Nat):Int)))) (x_lss (k:=.i64) (a:=((k:Nat):Int)) (b:=((n91:Nat):Int)) (.tmp rfl rfl) (.tmp rfl rfl)) ?_
 refine c_nil (n_then ?_)
 rcases Bool.eq_false_or_eq_true (decide ((((k:Nat):Int):Int) < ((n91:Nat):Int))) with hc100 | hc100
 have hp100:(((k:Nat):Int):Int) < ((n91:Nat):Int):=of_decide_eq_true hc100
 refine c_cond_t (t:=true) (.tmp rfl (cVb hc100)) rfl ?_
 refine c_skip (n_then (c_seq (c_block (c_region (st (v:=.int .i64 ((n4:Nat):Int)) (x_move (.tmp rfl hρ96)) ?_)))))
 refine st (v:=.pointer (some ⟨g29,0 + 9,none⟩)) (fa30_6 (.tmp rfl hρ95)) ?_
 refine st (v:=.slice A14 n15 c16) (ld26 (.tmp rfl rfl) (hs99.cell 0 rfl (0 + 9) rfl)) ?_
 refine st (v:=.int .i64 ((q:Nat):Int)) (x_move (.tmp rfl hρ97)) ?_
 refine st (v:=.pointer (some ⟨b78,(o79 + q * 4),none⟩)) (ixo26 (.tmp rfl rfl) hA82 (i:=((q:Nat):Int)) (.tmp rfl rfl) (by omega) (by omega) (by omega)) ?_
 refine st (v:=.pointer (some ⟨b78,(o79 + q * 4) + 3,none⟩)) (fa52_2 (.tmp rfl rfl)) ?_
 refine st (v:=.slice A90 n91 c92) (ld28 (.tmp rfl rfl) ((hat84x hs99).cell 3 rfl)) ?_
 refine st (v:=.int .i64 ((k:Nat):Int)) (x_move (.tmp rfl hρ98)) ?_
 obtain ⟨e101,b102,o103,cs104,hx105,hA106,hr107,hat108⟩:=hl93.get (i:=k) (by omega)
 obtain ⟨A111,n112,c113,rfl,⟨b109,b110⟩,hy114⟩:=hr107
 have:=hy114.len; have:=hy114.bnd; have:=hy114.le
 have hat108x:∀ {w:World} {L:List Res},St H w L → At w ⟨b102,o103 + k * 2,none⟩ [.int .i64 e101.From,.slice A111 n112 c113]:=fun h => hat108 h
 have hzc:=zT_next (g:=gM) hx105; have hzd:=zT_le gM e77.Items (k + 1); have hgm:gM e101 = e101.M.length:=rfl
 refine st (v:=.pointer (some ⟨b102,(o103 + k * 2),none⟩)) (ixo28 (.tmp rfl rfl) hA106 (i:=((k:Nat):Int)) (.tmp rfl rfl) (by omega) (by omega) (by omega)) ?_
 refine st (v:=.pointer (some ⟨b102,(o103 + k * 2) + 1,none⟩)) (fa49_1 (.tmp rfl rfl)) ?_
 refine st (v:=.slice A111 n112 c113) (ld33 (.tmp rfl rfl) ((hat108x hs99).cell 1 rfl)) ?_
 refine st (v:=.int .i64 ((n112:Nat):Int)) (x_len (n:=n112) Try.underlying33 (.tmp rfl rfl)) ?_
 refine st (v:=.int .i64 (((n4 + n112):Nat):Int)) (x_add (k:=.i64) (a:=((n4:Nat):Int)) (b:=((n112:Nat):Int)) (.tmp rfl rfl) (.tmp rfl rfl) ((w64 (by omega) (by omega)).trans (by omega))) ?_
 refine st (v:=.int .i64 (((n4 + n112):Nat):Int)) (x_assign (.tmp rfl rfl)) ?_
 refine c_nil (n_block (n_then (c_region (st (v:=.int .i64 ((k:Nat):Int)) (x_move (.tmp rfl hρ98)) ?_))))
 refine st (v:=.int .i64 (((k + 1):Nat):Int)) (x_add (k:=.i64) (a:=((k:Nat):Int)) (b:=1) (.tmp rfl rfl) .const ((w64 (by omega) (by omega)).trans (by omega))) ?_
 refine st (v:=.int .i64 (((k + 1):Nat):Int)) (x_assign (.tmp rfl rfl)) ?_
 refine c_nil ?_
 refine n_then ⟨_,_,rfl,?_,(n4 + n112),(k + 1),hρ95,rfl,hρ97,rfl,(by omega),(by rw [zT_next hx105]; show _ = _ + (_ + e101.M.length); omega),hs99,rfl⟩
 omega
 have hp100:¬ ((((k:Nat):Int):Int) < ((n91:Nat):Int)):=of_decide_eq_false hc100
 refine c_cond_f (t:=false) (.tmp rfl (cVb hc100)) rfl ?_
 refine c_exit (x_then (x_then (x_here (n_block (n_then (c_region (st (v:=.int .i64 ((q:Nat):Int)) (x_move (.tmp rfl hρ97)) ?_)))))))
 refine st (v:=.int .i64 (((q + 1):Nat):Int)) (x_add (k:=.i64) (a:=((q:Nat):Int)) (b:=1) (.tmp rfl rfl) .const ((w64 (by omega) (by omega)).trans (by omega))) ?_
 refine st (v:=.int .i64 (((q + 1):Nat):Int)) (x_assign (.tmp rfl rfl)) ?_
 refine c_nil ?_
 refine n_then ⟨_,_,rfl,?_,n4,(q + 1),hρ95,hρ96,rfl,(by omega),(by rw [zT_next hx81]; show _ = _ + (_ + (e77.Items.length + (e77.Items.map gM).sum)); have hz4:=zT_all (g:=gM) (show e77.Items.length ≤ k by omega); omega),hs99,rfl⟩
 omega
 have hp76:¬ ((((q:Nat):Int):Int) < ((n15:Nat):Int)):=of_decide_eq_false hc76
 refine c_cond_f (t:=false) (.tmp rfl (cVb hc76)) rfl ?_
 refine c_exit (x_then (x_then (x_here (n_then (c_seq (c_region (st (v:=.int .i64 ((n3:Nat):Int)) (x_move (.tmp rfl hρ73)) ?_)))))))
 refine st (v:=.bool (decide ((20000:Int) < ((n3:Nat):Int)))) (x_gtr (k:=.i64) (a:=((n3:Nat):Int)) (b:=20000) (.tmp rfl rfl) .const) ?_
 refine st (v:=.bool (decide ((20000:Int) < ((n3:Nat):Int)))) (x_assign (.tmp rfl rfl)) ?_
 refine c_nil (n_then (c_ret (leave_ret (res_one (v:=.bool (decide ((20000:Int) < ((n3:Nat):Int)))) rfl (.mk rfl rfl)) ?_)))
 have hans115:(greatF f) = (decide ((20000:Int) < ((n3:Nat):Int))):=(great_is (by rw [sizeF_eq]; have hz3:=zT_all (g:=gS) (show f.States.length ≤ q by omega); omega)).symm
 rw [hans115]
 exact ⟨rfl,hs75.drop⟩
set_option maxHeartbeats 8000000 in
theorem awake_spec {H:Hp} {w:World} {L:List Res} (hs:St H w (L)) :Calls Try.prog 11 #[] w (fun e w' => e = .returned (.bool true)∧St H w' (L)):=by
 refine enter (args:=[]) (N:=23) Try.func11 rfl rfl rfl ?_
 refine c_seq (c_region (st (v:=.bool false) (x_assign .const) ?_))
 refine c_nil (n_then (c_seq (c_region (st (v:=.agg #[.int .u8 1,.int .i64 1,.int .u64 0,.int .i64 0,.int .u16 0,.int .u64 0,.int .i64 0,.int .u64 0,.int .i64 0,.slice none 0 0,.int .u64 0,.slice none 0 0,.slice none 0 0,.int .u64 0,.int .u64 0]) (bl30 (ps:=[(0,.int .u8 1),(1,.int .i64 1)]) (.cons .const (.cons .const Evp.nil)) rfl) ?_))))
 have hr1:kFrame.rep H (GFrame.mk 1 1 (GViewID.mk 0 0) 0 (GViewID.mk 0 0) (GViewID.mk 0 0) [] 0 [] [] 0 0) [.int .u8 1,.int .i64 1,.int .u64 0,.int .i64 0,.int .u16 0,.int .u64 0,.int .i64 0,.int .u64 0,.int .i64 0,.slice none 0 0,.int .u64 0,.slice none 0 0,.slice none 0 0,.int .u64 0,.int .u64 0]:=⟨none,0,0,none,0,0,none,0,0,rfl,(show 1 < 256 from by omega),(show IB 1 from ⟨by omega,by omega⟩),(show 0 < 18446744073709551616 from by omega),(show IB 0 from ⟨by omega,by omega⟩),(show 0 < 65536 from by omega),(show 0 < 18446744073709551616 from by omega),(show IB 0 from ⟨by omega,by omega⟩),(show 0 < 18446744073709551616 from by omega),(show IB 0 from ⟨by omega,by omega⟩),(Sl.nil _ _ none),(show 0 < 18446744073709551616 from by omega),(Sl.nil _ _ none),(Sl.nil _ _ none),(show 0 < 18446744073709551616 from by omega),(show 0 < 18446744073709551616 from by omega)⟩
 refine st_c cb13 .func (evs1 (.tmp rfl rfl)) (encode_spec hs (GFrame.mk 1 1 (GViewID.mk 0 0) 0 (GViewID.mk 0 0) (GViewID.mk 0 0) [] 0 [] [] 0 0) hr1 awk_big) ?_
 rintro e w2 ⟨H4,v6,hle5,rfl,sm9,ok7,hs3⟩
 refine ⟨_,rfl,?_⟩
 refine st (v:=.tuple #[v6,.int .i64 ((encC (GFrame.mk 1 1 (GViewID.mk 0 0) 0 (GViewID.mk 0 0) (GViewID.mk 0 0) [] 0 [] [] 0 0)).2)]) (x_move (.tmp rfl rfl)) ?_
 refine st (v:=v6) (x_extract (.tmp rfl rfl) (i:=0) rfl) ?_
 refine st (v:=.int .i64 ((encC (GFrame.mk 1 1 (GViewID.mk 0 0) 0 (GViewID.mk 0 0) (GViewID.mk 0 0) [] 0 [] [] 0 0)).2)) (x_extract (.tmp rfl rfl) (i:=1) rfl) ?_
 refine st (v:=v6) (x_assign (.tmp rfl rfl)) ?_
 refine st (v:=.int .i64 ((encC (GFrame.mk 1 1 (GViewID.mk 0 0) 0 (GViewID.mk 0 0) (GViewID.mk 0 0) [] 0 [] [] 0 0)).2)) (x_assign (.tmp rfl rfl)) ?_
 refine c_nil (n_then (c_seq (c_region ?_)))
 have hal:((encC (GFrame.mk 1 1 (GViewID.mk 0 0) 0 (GViewID.mk 0 0) (GViewID.mk 0 0) [] 0 [] [] 0 0)).1).length = 10:=by rw [awk]; exact awk_len
 obtain ⟨H10,A11,c12,hle13,hs14,rfl,hp15⟩:=hs3.freezeBs ok7 sm9 (by omega)
 have hy16:By H10 A11 (((encC (GFrame.mk 1 1 (GViewID.mk 0 0) 0 (GViewID.mk 0 0) (GViewID.mk 0 0) [] 0 [] [] 0 0)).1).length) c12 ((encC (GFrame.mk 1 1 (GViewID.mk 0 0) 0 (GViewID.mk 0 0) (GViewID.mk 0 0) [] 0 [] [] 0 0)).1):=⟨hp15,by omega⟩
 skip
 refine st (v:=.int .i64 ((encC (GFrame.mk 1 1 (GViewID.mk 0 0) 0 (GViewID.mk 0 0) (GViewID.mk 0 0) [] 0 [] [] 0 0)).2)) (x_move (.tmp rfl rfl)) ?_
 refine st (v:=.bool (decide ((((encC (GFrame.mk 1 1 (GViewID.mk 0 0) 0 (GViewID.mk 0 0) (GViewID.mk 0 0) [] 0 [] [] 0 0)).2):Int) = 0))) (x_eql (k:=.i64) (a:=((encC (GFrame.mk 1 1 (GViewID.mk 0 0) 0 (GViewID.mk 0 0) (GViewID.mk 0 0) [] 0 [] [] 0 0)).2)) (b:=0) (.tmp rfl rfl) .const) ?_
 refine st (v:=.bool (decide ((((encC (GFrame.mk 1 1 (GViewID.mk 0 0) 0 (GViewID.mk 0 0) (GViewID.mk 0 0) [] 0 [] [] 0 0)).2):Int) = 0))) (x_move (.tmp rfl rfl)) ?_
 have hc17:(decide ((((encC (GFrame.mk 1 1 (GViewID.mk 0 0) 0 (GViewID.mk 0 0) (GViewID.mk 0 0) [] 0 [] [] 0 0)).2):Int) = 0)) = true:=(decide_eq_true (by rw [awk]))
 refine g_yes (yk 10 true rfl rfl hc17) ?_
 refine st (v:=.slice A11 (((encC (GFrame.mk 1 1 (GViewID.mk 0 0) 0 (GViewID.mk 0 0) (GViewID.mk 0 0) [] 0 [] [] 0 0)).1).length) c12) (x_move (.tmp rfl rfl)) ?_
 refine g_yes (yk 10 true rfl rfl hc17) ?_
 refine st (v:=.int .i64 (((((encC (GFrame.mk 1 1 (GViewID.mk 0 0) 0 (GViewID.mk 0 0) (GViewID.mk 0 0) [] 0 [] [] 0 0)).1).length):Nat):Int)) (x_len (n:=(((encC (GFrame.mk 1 1 (GViewID.mk 0 0) 0 (GViewID.mk 0 0) (GViewID.mk 0 0) [] 0 [] [] 0 0)).1).length)) Try.underlying33 (.tmp rfl rfl)) ?_
 refine g_yes (yk 10 true rfl rfl hc17) ?_
 refine st (v:=.bool (decide (((((((encC (GFrame.mk 1 1 (GViewID.mk 0 0) 0 (GViewID.mk 0 0) (GViewID.mk 0 0) [] 0 [] [] 0 0)).1).length):Nat):Int):Int) = 10))) (x_eql (k:=.i64) (a:=(((((encC (GFrame.mk 1 1 (GViewID.mk 0 0) 0 (GViewID.mk 0 0) (GViewID.mk 0 0) [] 0 [] [] 0 0)).1).length):Nat):Int)) (b:=10) (.tmp rfl rfl) .const) ?_
 refine st (v:=.bool (decide (((((((encC (GFrame.mk 1 1 (GViewID.mk 0 0) 0 (GViewID.mk 0 0) (GViewID.mk 0 0) [] 0 [] [] 0 0)).1).length):Nat):Int):Int) = 10))) (x_pick_t (.tmp rfl (cVb hc17)) (.tmp rfl rfl)) ?_
 refine st (v:=.bool (decide (((((((encC (GFrame.mk 1 1 (GViewID.mk 0 0) 0 (GViewID.mk 0 0) (GViewID.mk 0 0) [] 0 [] [] 0 0)).1).length):Nat):Int):Int) = 10))) (x_move (.tmp rfl rfl)) ?_
 have hc18:(decide (((((((encC (GFrame.mk 1 1 (GViewID.mk 0 0) 0 (GViewID.mk 0 0) (GViewID.mk 0 0) [] 0 [] [] 0 0)).1).length):Nat):Int):Int) = 10)) = true:=(decide_eq_true (by rw [awk,awk_len]; rfl))
 refine g_yes (yk 15 true rfl rfl hc18) ?_
 refine st (v:=.slice A11 (((encC (GFrame.mk 1 1 (GViewID.mk 0 0) 0 (GViewID.mk 0 0) (GViewID.mk 0 0) [] 0 [] [] 0 0)).1).length) c12) (x_move (.tmp rfl rfl)) ?_
 refine g_yes (yk 15 true rfl rfl hc18) ?_
 have:=hy16.toBs.le
 refine st (v:=.slice A11 6 c12) (bs_h Try.underlying33 inf5 (a:=6) (.tmp rfl rfl) .const (by omega) (by omega)) ?_
 refine g_yes (yk 15 true rfl rfl hc18) ?_
 refine st (v:=.string (bstr (((encC (GFrame.mk 1 1 (GViewID.mk 0 0) 0 (GViewID.mk 0 0) (GViewID.mk 0 0) [] 0 [] [] 0 0)).1).take 6))) ((hy16.toBs.take (k:=6) (by omega)).str Try.underlying33 Try.underlying5 Try.underlying9 hs14 (.tmp rfl rfl)) ?_
 refine g_yes (yk 15 true rfl rfl hc18) ?_
 refine st (v:=.bool (decide ((bstr (((encC (GFrame.mk 1 1 (GViewID.mk 0 0) 0 (GViewID.mk 0 0) (GViewID.mk 0 0) [] 0 [] [] 0 0)).1).take 6)) = (⟨#[1,1,0,0,0,0]⟩)))) (x_eqlS (.tmp rfl rfl) .const) ?_
 refine st (v:=.bool (decide ((bstr (((encC (GFrame.mk 1 1 (GViewID.mk 0 0) 0 (GViewID.mk 0 0) (GViewID.mk 0 0) [] 0 [] [] 0 0)).1).take 6)) = (⟨#[1,1,0,0,0,0]⟩)))) (x_pick_t (.tmp rfl (cVb hc18)) (.tmp rfl rfl)) ?_
 refine st (v:=.bool (decide ((bstr (((encC (GFrame.mk 1 1 (GViewID.mk 0 0) 0 (GViewID.mk 0 0) (GViewID.mk 0 0) [] 0 [] [] 0 0)).1).take 6)) = (⟨#[1,1,0,0,0,0]⟩)))) (x_move (.tmp rfl rfl)) ?_
 have hc19:(decide ((bstr (((encC (GFrame.mk 1 1 (GViewID.mk 0 0) 0 (GViewID.mk 0 0) (GViewID.mk 0 0) [] 0 [] [] 0 0)).1).take 6)) = (⟨#[1,1,0,0,0,0]⟩))) = true:=(decide_eq_true (by rw [awk]; exact congrArg bstr awk_take))
 refine st (v:=.bool true) (x_pick_t (.tmp rfl (cVb hc19)) .const) ?_
 refine st (v:=.bool true) (x_assign (.tmp rfl rfl)) ?_
 refine c_nil (n_then (c_ret (leave_ret (res_one (v:=.bool true) rfl (.mk rfl rfl)) ?_)))
 exact ⟨rfl,(hs14.weaken (hle5.trans hle13))⟩
end Go.Proofs.Ytlfihfmmhhcigaa

set_option linter.unusedVariables false
set_option linter.unusedSimpArgs false
namespace Go.Proofs.Ytlfihfmmhhcigaa
open Go Go.FM Go.Proofs
attribute [local irreducible] wpList wpQuiet wpS Code.wp Calls
set_option maxHeartbeats 8000000 in
theorem itemsdecP_spec {H:Hp} {w:World} {L:List Res} {g_r:Nat} {A_r:Option Addr} {n_r c_r:Nat} {r:List Nat} {b_r:Bool} (hs:St H w (obj g_r 98 [.slice A_r n_r c_r,.bool b_r]::L)) (hp_r:Bs H A_r n_r c_r r) (hn_r:n_r ≤ 140737488355320):Calls Try.prog 39 #[.pointer (some ⟨g_r,0,none⟩)] w (fun e w' => ∃ (H':Hp) (A0:Option Addr) (n0 c0:Nat) (q_r:List GItem × List Nat × Bool) (A_r':Option Addr) (n_r' c_r':Nat),H.le H'∧e = .returned (.slice A0 n0 c0)∧Sl kItemP H' A0 n0 c0 (q_r.1)∧q_r = rdItems r b_r∧Bs H' A_r' n_r' c_r' q_r.2.1∧n_r' ≤ n_r∧St H' w' (obj g_r 98 [.slice A_r' n_r' c_r',.bool q_r.2.2]::L)):=by
 have:=hp_r.len
 refine enter (args:=[.pointer (some ⟨g_r,0,none⟩)]) (N:=25) Try.func39 rfl rfl rfl ?_
 refine c_seq (c_region (st (v:=.slice none 0 0) (x_assign .const) ?_))
 refine c_nil (n_then (c_seq (c_region (st (v:=.slice none 0 0) (x_assign .const) ?_))))
 refine c_nil (n_then (c_seq (c_seq (c_region (st (v:=.pointer (some ⟨g_r,0,none⟩)) (x_move (.tmp rfl rfl)) ?_)))))
 refine st_c cb33 .func (evs2 (.tmp rfl rfl) .const) (int_q hp_r b_r 4096 (by omega) (by omega) hs) ?_
 rintro e w5 ⟨q1,A2,n3,c4,hq6,hb7,hn8,rfl,hp9,hs10⟩
 refine ⟨_,rfl,?_⟩
 refine st (v:=.int .i64 ((q1.1:Nat):Int)) (x_assign (.tmp rfl rfl)) ?_
 refine c_nil (n_then (c_block ?_))
 have hs13:St H _ (row 49 2 (.slice none 0 0) (([]:List GItem).length) []::obj g_r 98 [.slice A2 n3 c4,.bool q1.2.2]::L):=hs10.krowNil 49 kItemP
 have:([]:List GItem).length = 0:=rfl
 refine c_loop (fun ρ w mm => ∃ (H11:Hp) (k:Int) (l:List GItem) (v_l:Value) (c_l:List Value) (A2:Option Addr) (n2:Nat) (c2:Nat) (cur:List Nat) (bad:Bool),ρ 0 = .pointer (some ⟨g_r,0,none⟩)∧ρ 3 = v_l∧ρ 4 = .int .i64 k∧(H.le H11)∧(RowOk kItemP.sz v_l l.length c_l)∧(kItemP.toKn.rows H11 l c_l)∧(Bs H11 A2 n2 c2 cur)∧(n2 ≤ n_r)∧(0 ≤ k)∧(k ≤ 4096)∧((l.length:Int) + k ≤ 4096)∧(ItInv r b_r l k cur bad)∧St H11 w (row 49 2 v_l l.length c_l::obj g_r 98 [.slice A2 n2 c2,.bool bad]::L)∧mm = k.toNat) _ ⟨H,((q1.1:Nat):Int),([]:List GItem),(.slice none 0 0),[],A2,n3,c4,q1.2.1,q1.2.2,rfl,rfl,rfl,(Hp.le.refl _),(RowOk.knil kItemP),(Kn.rows_nil _ _),hp9,(by omega),(by omega),(by omega),(by omega),(it_start hq6),((hs13.p1).p1),rfl⟩ ?_
 rintro ρ w mm ⟨H11,k,l,v_l,c_l,A2,n2,c2,cur,bad,hρ15,hρ16,hρ17,hg12,ok_l,hk_l,hp2,hn2,hk,hk2,hl,inv,hs18,rfl⟩
 refine c_seq (c_seq (c_region (st (v:=.int .i64 k) (x_move (.tmp rfl hρ17)) ?_)))
 refine st (v:=.bool (decide ((0:Int) < k))) (x_gtr (k:=.i64) (a:=k) (b:=0) (.tmp rfl rfl) .const) ?_
 refine st (v:=.bool (decide ((0:Int) < k))) (x_move (.tmp rfl rfl)) ?_
 rcases Bool.eq_false_or_eq_true (decide ((0:Int) < k)) with hc19 | hc19
 have hp19:(0:Int) < k:=of_decide_eq_true hc19
 refine g_yes (yk 9 true rfl rfl hc19) ?_
 refine st (v:=.pointer (some ⟨g_r,0,none⟩)) (x_move (.tmp rfl hρ15)) ?_
 refine g_yes (yk 9 true rfl rfl hc19) ?_
 have hs20:=hs18.p1
 refine st_c cb37 .func (evs1 (.tmp rfl rfl)) (bad_own hs20) ?_
 rintro e w21 ⟨rfl,hs22⟩
 refine ⟨_,rfl,?_⟩
 refine g_yes (yk 9 true rfl rfl hc19) ?_
 refine st (v:=.bool (!bad)) (x_not (.tmp rfl rfl)) ?_
 refine st (v:=.bool (!bad)) (x_pick_t (.tmp rfl (cVb hc19)) (.tmp rfl rfl)) ?_
 refine c_nil (n_then ?_)
 rcases Bool.eq_false_or_eq_true bad with hc23 | hc23
 refine c_cond_f (t:=false) (.tmp rfl (cVb (by rw [hc23]; rfl))) rfl ?_
 refine c_exit (x_then (x_then (x_here (n_then (c_seq (c_region (st (v:=v_l) (x_move (.tmp rfl hρ16)) ?_)))))))
 refine st (v:=v_l) (x_assign (.tmp rfl rfl)) ?_
 refine c_nil (n_then (c_ret (leave_ret (res_one (v:=v_l) rfl (.mk rfl rfl)) ?_)))
 have hs24:=hs22.p1
 have:l.length * 32 ≤ 140737488351232:=by omega
 obtain ⟨H25,A26,c27,hle28,hs29,rfl,sp30⟩:=hs24.freezeSl (d:=kItemP) ok_l hk_l this
 have:=sp30.len; have:=sp30.le
 exact ⟨H25,A26,l.length,c27,(l,cur,bad),A2,n2,c2,(hg12.trans hle28),rfl,sp30,(it_done inv (.inr hc23)),(hp2.mono hle28),(by omega),hs29⟩
 refine c_cond_t (t:=true) (.tmp rfl (cVb (by rw [hc23]; rfl))) rfl ?_
 refine c_skip (n_then (c_seq (c_block (c_region (st (v:=v_l) (x_move (.tmp rfl hρ16)) ?_)))))
 refine st (v:=.pointer (some ⟨g_r,0,none⟩)) (x_move (.tmp rfl hρ15)) ?_
 refine st_c cb33 .func (evs2 (.tmp rfl rfl) .const) (int_q hp2 bad 15 (by omega) (by omega) hs22) ?_
 rintro e w35 ⟨q31,A32,n33,c34,hq36,hb37,hn38,rfl,hp39,hs40⟩
 refine ⟨_,rfl,?_⟩
 refine st (v:=.pointer (some ⟨g_r,0,none⟩)) (x_move (.tmp rfl hρ15)) ?_
 refine st_c cb38 .func (evs2 (.tmp rfl rfl) .const) (bytes_q hp39 (by omega) q31.2.2 1048576 (by omega) (by omega) hs40) ?_
 rintro e w45 ⟨v51,q41,A42,n43,c44,hq46,⟨sm53,hl55,ok54⟩,hn48,rfl,hp49,hs50⟩
 refine ⟨_,rfl,?_⟩
 obtain ⟨H56,A57,c58,hle59,hs60,rfl,hy61,pl62⟩:=hs50.freezeBsP ok54 sm53 (by omega)
 refine st (v:=.agg #[.int .i64 ((q31.1:Nat):Int),.slice A57 q41.1.length c58]) (bl49 (ps:=[(0,.int .i64 ((q31.1:Nat):Int)),(1,.slice A57 q41.1.length c58)]) (.cons (.tmp rfl rfl) (.cons (.tmp rfl rfl) Evp.nil)) rfl) ?_
 refine st_m (m_lit (n:=1) (ps:=[(0,.agg #[.int .i64 ((q31.1:Nat):Int),.slice A57 q41.1.length c58])]) (cs:=[.int .i64 ((q31.1:Nat):Int),.slice A57 q41.1.length c58]) Try.underlying28 inf49 (.cons (.tmp rfl rfl) Evp.nil) (by decide) (by decide) rfl rfl hs60) ?_
 rintro _ w65 ⟨g63,rfl,hs67⟩
 have hs68:=hs67.p2
 have hr76:kItemP.rep H56 (GItem.mk ((q31.1:Nat):Int) q41.1) [.int .i64 ((q31.1:Nat):Int),.slice A57 q41.1.length c58]:=⟨A57,q41.1.length,c58,rfl,(show IB ((q31.1:Nat):Int) from ⟨by omega,by omega⟩),hy61,pl62⟩
 refine st_m (m_appK (d:=kItemP) (ys:=[(GItem.mk ((q31.1:Nat):Int) q41.1)]) (news:=[.int .i64 ((q31.1:Nat):Int),.slice A57 q41.1.length c58]) Try.underlying28 inf49 rfl hs68 ok_l (Kn.rows_mono hk_l hle59) (.tmp rfl rfl) (.tmp rfl rfl) (Kn.rows_one hr76) rfl (hs68.at_ 1 rfl 0 rfl) (by have:([(GItem.mk ((q31.1:Nat):Int) q41.1)]:List GItem).length = 1:=rfl; omega) (by decide)) ?_
 rintro v69 w70 ⟨cs71,ok72,hk73,hs74⟩
 have hn75:(l ++ [(GItem.mk ((q31.1:Nat):Int) q41.1)]).length = l.length + 1:=by simp
 refine st (v:=v69) (x_assign (.tmp rfl rfl)) ?_
 refine c_nil (n_block (n_then (c_region (st (v:=.int .i64 k) (x_move (.tmp rfl hρ17)) ?_))))
 refine st (v:=.int .i64 (k - 1)) (x_sub (k:=.i64) (a:=k) (b:=1) (.tmp rfl rfl) .const (w64 (by omega) (by omega))) ?_
 refine st (v:=.int .i64 (k - 1)) (x_assign (.tmp rfl rfl)) ?_
 refine c_nil ?_
 refine n_then ⟨_,_,rfl,?_,H56,(k - 1),(l ++ [(GItem.mk ((q31.1:Nat):Int) q41.1)]),v69,cs71,A42,n43,c44,q41.2.1,q41.2.2,hρ15,rfl,rfl,(hg12.trans hle59),ok72,hk73,(hp49.mono hle59),(by omega),(by omega),(by omega),(by omega),(it_step inv (by omega) hc23 hq36 hq46),(((hs74.p1).drop.p1).p1),rfl⟩
 omega
 have hp19:¬ ((0:Int) < k):=of_decide_eq_false hc19
 refine g_no (yk 9 false rfl rfl hc19) rfl ?_
 refine g_no (yk 9 false rfl rfl hc19) rfl ?_
 refine g_no (yk 9 false rfl rfl hc19) rfl ?_
 refine st (v:=.bool false) (x_pick_f (.tmp rfl (cVb hc19)) .const) ?_
 refine c_nil (n_then (c_cond_f (t:=false) (.tmp rfl rfl) rfl ?_))
 refine c_exit (x_then (x_then (x_here (n_then (c_seq (c_region (st (v:=v_l) (x_move (.tmp rfl hρ16)) ?_)))))))
 refine st (v:=v_l) (x_assign (.tmp rfl rfl)) ?_
 refine c_nil (n_then (c_ret (leave_ret (res_one (v:=v_l) rfl (.mk rfl rfl)) ?_)))
 have:l.length * 32 ≤ 140737488351232:=by omega
 obtain ⟨H77,A78,c79,hle80,hs81,rfl,sp82⟩:=hs18.freezeSl (d:=kItemP) ok_l hk_l this
 have:=sp82.len; have:=sp82.le
 exact ⟨H77,A78,l.length,c79,(l,cur,bad),A2,n2,c2,(hg12.trans hle80),rfl,sp82,(it_done inv (.inl (by omega))),(hp2.mono hle80),(by omega),hs81⟩
set_option maxHeartbeats 8000000 in
theorem decode_own {H:Hp} {w:World} {L:List Res} {v_b:Value} {b:List Nat} (hs:St H w (row 5 1 v_b b.length (b.map encB)::L)) (sm_b:Small b) (ok_b:RowOk 1 v_b b.length (b.map encB)) (lb_b:b.length ≤ 140737488351232):Calls Try.prog 15 #[v_b] w (fun e w' => ∃ (H':Hp) (cs0:List Value),H.le H'∧e = .returned (.tuple #[.agg cs0.toArray,.int .i64 ((decA b).2)])∧kFrameP.rep H' ((decA b).1) cs0∧St H' w' (row 5 1 v_b b.length (b.map encB)::L)):=by
 refine enter (args:=[v_b]) (N:=171) Try.func15 rfl rfl rfl ?_
 obtain ⟨A_b,c_b,rfl,hcb⟩:=ok_b.slice
 refine c_seq (c_region (st_m (al30 (cs:=[.int .u8 0,.int .i64 0,.int .u64 0,.int .i64 0,.int .u16 0,.int .u64 0,.int .i64 0,.int .u64 0,.int .i64 0,.slice none 0 0,.int .u64 0,.slice none 0 0,.slice none 0 0,.int .u64 0,.int .u64 0]) hs rfl) ?_))
 rintro _ w2 ⟨g1,rfl,hs4⟩
 refine st (v:=.int .i64 0) (x_assign .const) ?_
 refine c_nil (n_then (c_seq (c_seq (c_region (st (v:=.slice A_b b.length c_b) (x_move (.tmp rfl rfl)) ?_)))))
 refine st (v:=.int .i64 ((b.length:Nat):Int)) (x_len (n:=b.length) Try.underlying33 (.tmp rfl rfl)) ?_
 refine st (v:=.bool (decide ((1048576:Int) < ((b.length:Nat):Int)))) (x_gtr (k:=.i64) (a:=((b.length:Nat):Int)) (b:=1048576) (.tmp rfl rfl) .const) ?_
 refine c_nil (n_then ?_)
 rcases Bool.eq_false_or_eq_true (decide ((1048576:Int) < ((b.length:Nat):Int))) with hc5 | hc5
 have hp5:(1048576:Int) < ((b.length:Nat):Int):=of_decide_eq_true hc5
 refine c_cond_t (t:=true) (.tmp rfl (cVb hc5)) rfl ?_
 refine c_seq (c_region (st (v:=.agg #[.int .u8 0,.int .i64 0,.int .u64 0,.int .i64 0,.int .u16 0,.int .u64 0,.int .i64 0,.int .u64 0,.int .i64 0,.slice none 0 0,.int .u64 0,.slice none 0 0,.slice none 0 0,.int .u64 0,.int .u64 0]) (bl30 (ps:=[]) Evp.nil rfl) ?_))
 refine st_m0 (sto30 (cs':=[.int .u8 0,.int .i64 0,.int .u64 0,.int .i64 0,.int .u16 0,.int .u64 0,.int .i64 0,.int .u64 0,.int .i64 0,.slice none 0 0,.int .u64 0,.slice none 0 0,.slice none 0 0,.int .u64 0,.int .u64 0]) (i:=0) hs4 (v:=.agg #[.int .u8 0,.int .i64 0,.int .u64 0,.int .i64 0,.int .u16 0,.int .u64 0,.int .i64 0,.int .u64 0,.int .i64 0,.slice none 0 0,.int .u64 0,.slice none 0 0,.slice none 0 0,.int .u64 0,.int .u64 0]) (.tmp rfl rfl) (.tmp rfl rfl) rfl (Nat.le_of_ble_eq_true rfl) (oneA rfl) rfl) ?_
 rintro w6 hs8
 refine st (v:=.int .i64 2) (x_assign .const) ?_
 refine c_nil (n_then (c_ret (r_then (leave_ret (res_two (v:=.agg #[.int .u8 0,.int .i64 0,.int .u64 0,.int .i64 0,.int .u16 0,.int .u64 0,.int .i64 0,.int .u64 0,.int .i64 0,.slice none 0 0,.int .u64 0,.slice none 0 0,.slice none 0 0,.int .u64 0,.int .u64 0]) (u:=.int .i64 2) rfl (.mkCell rfl rfl (lv30 (cs:=[.int .u8 0,.int .i64 0,.int .u64 0,.int .i64 0,.int .u16 0,.int .u64 0,.int .i64 0,.int .u64 0,.int .i64 0,.slice none 0 0,.int .u64 0,.slice none 0 0,.slice none 0 0,.int .u64 0,.int .u64 0]) (hs8.at_ 0 rfl 0 rfl) rfl)) (.mk rfl rfl)) ?_))))
 have hans9:decA b = (zF,2):=decA_long (by omega)
 rw [hans9]
 exact ⟨H,[.int .u8 0,.int .i64 0,.int .u64 0,.int .i64 0,.int .u16 0,.int .u64 0,.int .i64 0,.int .u64 0,.int .i64 0,.slice none 0 0,.int .u64 0,.slice none 0 0,.slice none 0 0,.int .u64 0,.int .u64 0],(Hp.le.refl _),rfl,⟨none,0,0,none,0,0,none,0,0,rfl,(show 0 < 256 from by omega),(show IB 0 from ⟨by omega,by omega⟩),(show 0 < 18446744073709551616 from by omega),(show IB 0 from ⟨by omega,by omega⟩),(show 0 < 65536 from by omega),(show 0 < 18446744073709551616 from by omega),(show IB 0 from ⟨by omega,by omega⟩),(show 0 < 18446744073709551616 from by omega),(show IB 0 from ⟨by omega,by omega⟩),(Sl.nil _ _ none),(show 0 < 18446744073709551616 from by omega),(Sl.nil _ _ none),(Sl.nil _ _ none),(show 0 < 18446744073709551616 from by omega),(show 0 < 18446744073709551616 from by omega)⟩,hs8.drop⟩
 have hp5:¬ ((1048576:Int) < ((b.length:Nat):Int)):=of_decide_eq_false hc5
 refine c_cond_f (t:=false) (.tmp rfl (cVb hc5)) rfl ?_
 refine c_skip (n_then (c_seq (c_region (st (v:=.slice A_b b.length c_b) (x_move (.tmp rfl rfl)) ?_))))
 have hs10:St H _ (row 5 1 (.slice A_b b.length c_b) b.length (b.map encB)::obj g1 30 [.int .u8 0,.int .i64 0,.int .u64 0,.int .i64 0,.int .u16 0,.int .u64 0,.int .i64 0,.int .u64 0,.int .i64 0,.slice none 0 0,.int .u64 0,.slice none 0 0,.slice none 0 0,.int .u64 0,.int .u64 0]::L):=St.headQ [obj g1 30 [.int .u8 0,.int .i64 0,.int .u64 0,.int .i64 0,.int .u16 0,.int .u64 0,.int .i64 0,.int .u64 0,.int .i64 0,.slice none 0 0,.int .u64 0,.slice none 0 0,.slice none 0 0,.int .u64 0,.int .u64 0]] hs4
 obtain ⟨H11,hle12,hs13,hy14,hth15⟩:=hs10.lendBsC ok_b sm_b (by omega)
 refine st_c cb31 .func (evs1 (.tmp rfl rfl)) (open_spec hs13 hy14.toBs (by omega)) ?_
 rintro e w18 ⟨v17,rfl,ok19,hs20⟩
 refine ⟨_,rfl,?_⟩
 have hs16:St H _ (row 5 1 (.slice A_b b.length c_b) b.length (b.map encB)::row 5 1 v17 ((openL b).1.length) (((openL b).1).map encB)::obj g1 30 [.int .u8 0,.int .i64 0,.int .u64 0,.int .i64 0,.int .u16 0,.int .u64 0,.int .i64 0,.int .u64 0,.int .i64 0,.slice none 0 0,.int .u64 0,.slice none 0 0,.slice none 0 0,.int .u64 0,.int .u64 0]::L):=hth15 hs20
 have hs22:St H _ (row 5 1 v17 ((openL b).1.length) (((openL b).1).map encB)::obj g1 30 [.int .u8 0,.int .i64 0,.int .u64 0,.int .i64 0,.int .u16 0,.int .u64 0,.int .i64 0,.int .u64 0,.int .i64 0,.slice none 0 0,.int .u64 0,.slice none 0 0,.slice none 0 0,.int .u64 0,.int .u64 0]::(row 5 1 (.slice A_b b.length c_b) b.length (b.map encB)::L)):=St.backQ [row 5 1 v17 ((openL b).1.length) (((openL b).1).map encB),obj g1 30 [.int .u8 0,.int .i64 0,.int .u64 0,.int .i64 0,.int .u16 0,.int .u64 0,.int .i64 0,.int .u64 0,.int .i64 0,.slice none 0 0,.int .u64 0,.slice none 0 0,.slice none 0 0,.int .u64 0,.int .u64 0]] hs16
 refine st (v:=.tuple #[v17,.int .i64 ((openL b).2)]) (x_move (.tmp rfl rfl)) ?_
 refine st (v:=v17) (x_extract (.tmp rfl rfl) (i:=0) rfl) ?_
 refine st (v:=.int .i64 ((openL b).2)) (x_extract (.tmp rfl rfl) (i:=1) rfl) ?_
 refine st (v:=v17) (x_assign (.tmp rfl rfl)) ?_
 refine st (v:=.int .i64 ((openL b).2)) (x_assign (.tmp rfl rfl)) ?_
 refine c_nil (n_then (c_seq (c_seq (c_region (st (v:=.int .i64 ((openL b).2)) (x_move (.tmp rfl rfl)) ?_)))))
 refine st (v:=.bool (decide ((((openL b).2):Int) ≠ 0))) (x_neq (k:=.i64) (a:=((openL b).2)) (b:=0) (.tmp rfl rfl) .const) ?_
 refine c_nil (n_then ?_)
 rcases Bool.eq_false_or_eq_true (decide ((((openL b).2):Int) ≠ 0)) with hc23 | hc23
 have hp23:(((openL b).2):Int) ≠ 0:=of_decide_eq_true hc23
 refine c_cond_t (t:=true) (.tmp rfl (cVb hc23)) rfl ?_
 refine c_seq (c_region (st (v:=.agg #[.int .u8 0,.int .i64 0,.int .u64 0,.int .i64 0,.int .u16 0,.int .u64 0,.int .i64 0,.int .u64 0,.int .i64 0,.slice none 0 0,.int .u64 0,.slice none 0 0,.slice none 0 0,.int .u64 0,.int .u64 0]) (bl30 (ps:=[]) Evp.nil rfl) ?_))
 refine st (v:=.int .i64 ((openL b).2)) (x_move (.tmp rfl rfl)) ?_
 have hs24:=hs22.p1
 refine st_m0 (sto30 (cs':=[.int .u8 0,.int .i64 0,.int .u64 0,.int .i64 0,.int .u16 0,.int .u64 0,.int .i64 0,.int .u64 0,.int .i64 0,.slice none 0 0,.int .u64 0,.slice none 0 0,.slice none 0 0,.int .u64 0,.int .u64 0]) (i:=0) hs24 (v:=.agg #[.int .u8 0,.int .i64 0,.int .u64 0,.int .i64 0,.int .u16 0,.int .u64 0,.int .i64 0,.int .u64 0,.int .i64 0,.slice none 0 0,.int .u64 0,.slice none 0 0,.slice none 0 0,.int .u64 0,.int .u64 0]) (.tmp rfl rfl) (.tmp rfl rfl) rfl (Nat.le_of_ble_eq_true rfl) (oneA rfl) rfl) ?_
 rintro w25 hs27
 refine st (v:=.int .i64 ((openL b).2)) (x_assign (.tmp rfl rfl)) ?_
 refine c_nil (n_then (c_ret (r_then (leave_ret (res_two (v:=.agg #[.int .u8 0,.int .i64 0,.int .u64 0,.int .i64 0,.int .u16 0,.int .u64 0,.int .i64 0,.int .u64 0,.int .i64 0,.slice none 0 0,.int .u64 0,.slice none 0 0,.slice none 0 0,.int .u64 0,.int .u64 0]) (u:=.int .i64 ((openL b).2)) rfl (.mkCell rfl rfl (lv30 (cs:=[.int .u8 0,.int .i64 0,.int .u64 0,.int .i64 0,.int .u16 0,.int .u64 0,.int .i64 0,.int .u64 0,.int .i64 0,.slice none 0 0,.int .u64 0,.slice none 0 0,.slice none 0 0,.int .u64 0,.int .u64 0]) (hs27.at_ 0 rfl 0 rfl) rfl)) (.mk rfl rfl)) ?_))))
 have hans28:decA b = (zF,(openL b).2):=decA_open (by omega) hp23
 rw [hans28]
 exact ⟨H,[.int .u8 0,.int .i64 0,.int .u64 0,.int .i64 0,.int .u16 0,.int .u64 0,.int .i64 0,.int .u64 0,.int .i64 0,.slice none 0 0,.int .u64 0,.slice none 0 0,.slice none 0 0,.int .u64 0,.int .u64 0],(Hp.le.refl _),rfl,⟨none,0,0,none,0,0,none,0,0,rfl,(show 0 < 256 from by omega),(show IB 0 from ⟨by omega,by omega⟩),(show 0 < 18446744073709551616 from by omega),(show IB 0 from ⟨by omega,by omega⟩),(show 0 < 65536 from by omega),(show 0 < 18446744073709551616 from by omega),(show IB 0 from ⟨by omega,by omega⟩),(show 0 < 18446744073709551616 from by omega),(show IB 0 from ⟨by omega,by omega⟩),(Sl.nil _ _ none),(show 0 < 18446744073709551616 from by omega),(Sl.nil _ _ none),(Sl.nil _ _ none),(show 0 < 18446744073709551616 from by omega),(show 0 < 18446744073709551616 from by omega)⟩,hs27.drop.drop⟩
 have hp23:¬ ((((openL b).2):Int) ≠ 0):=of_decide_eq_false hc23
 refine c_cond_f (t:=false) (.tmp rfl (cVb hc23)) rfl ?_
 refine c_skip (n_then (c_seq (c_region ?_)))
 have hol:=openL_le b
 obtain ⟨H29,A30,c31,hle32,hs33,rfl,hp34⟩:=hs22.freezeBs ok19 (openL_small hy14.toBs.lt) (by omega)
 have hy35:By H29 A30 ((openL b).1.length) c31 ((openL b).1):=⟨hp34,by omega⟩
 skip
 refine st (v:=.slice A30 ((openL b).1.length) c31) (x_move (.tmp rfl rfl)) ?_
 refine st_c cb32 .func (evs1 (.tmp rfl rfl)) (newReader_spec hs33) ?_
 rintro e w37 ⟨g36,rfl,hs38⟩
 refine ⟨_,rfl,?_⟩
 refine st (v:=.pointer (some ⟨g36,0,none⟩)) (x_assign (.tmp rfl rfl)) ?_
 refine c_nil (n_then (c_seq (c_region (st (v:=.pointer (some ⟨g36,0,none⟩)) (x_move (.tmp rfl rfl)) ?_))))
 refine st_c cb33 .func (evs2 (.tmp rfl rfl) .const) (int_q hy35.toBs false 255 (by omega) (by omega) hs38) ?_
 rintro e w43 ⟨q39,A40,n41,c42,hq44,hb45,hn46,rfl,hp47,hs48⟩
 refine ⟨_,rfl,?_⟩
 have hb49:q39.1 < 256:=by omega
 refine st (v:=.int .u8 ((q39.1:Nat):Int)) (x_conv (k:=.i64) (a:=((q39.1:Nat):Int)) Try.underlying3 Try.underlying5 (.tmp rfl rfl) (wU rfl rfl hb49)) ?_
 refine st (v:=.pointer (some ⟨g36,0,none⟩)) (x_move (.tmp rfl rfl)) ?_
 refine st_c cb33 .func (evs2 (.tmp rfl rfl) .const) (int_q hp47 q39.2.2 15 (by omega) (by omega) hs48) ?_
 rintro e w54 ⟨q50,A51,n52,c53,hq55,hb56,hn57,rfl,hp58,hs59⟩
 refine ⟨_,rfl,?_⟩
 refine st (v:=.agg #[.int .u8 ((q39.1:Nat):Int),.int .i64 ((q50.1:Nat):Int),.int .u64 0,.int .i64 0,.int .u16 0,.int .u64 0,.int .i64 0,.int .u64 0,.int .i64 0,.slice none 0 0,.int .u64 0,.slice none 0 0,.slice none 0 0,.int .u64 0,.int .u64 0]) (bl30 (ps:=[(0,.int .u8 ((q39.1:Nat):Int)),(1,.int .i64 ((q50.1:Nat):Int))]) (.cons (.tmp rfl rfl) (.cons (.tmp rfl rfl) Evp.nil)) rfl) ?_
 refine st_m (al30 (cs:=[.int .u8 0,.int .i64 0,.int .u64 0,.int .i64 0,.int .u16 0,.int .u64 0,.int .i64 0,.int .u64 0,.int .i64 0,.slice none 0 0,.int .u64 0,.slice none 0 0,.slice none 0 0,.int .u64 0,.int .u64 0]) hs59 rfl) ?_
 rintro _ w61 ⟨g60,rfl,hs63⟩
 refine st_m0 (sto30 (cs':=[.int .u8 ((q39.1:Nat):Int),.int .i64 ((q50.1:Nat):Int),.int .u64 0,.int .i64 0,.int .u16 0,.int .u64 0,.int .i64 0,.int .u64 0,.int .i64 0,.slice none 0 0,.int .u64 0,.slice none 0 0,.slice none 0 0,.int .u64 0,.int .u64 0]) (i:=0) hs63 (v:=.agg #[.int .u8 ((q39.1:Nat):Int),.int .i64 ((q50.1:Nat):Int),.int .u64 0,.int .i64 0,.int .u16 0,.int .u64 0,.int .i64 0,.int .u64 0,.int .i64 0,.slice none 0 0,.int .u64 0,.slice none 0 0,.slice none 0 0,.int .u64 0,.int .u64 0]) (.tmp rfl rfl) (.tmp rfl rfl) rfl (Nat.le_of_ble_eq_true rfl) (oneA rfl) rfl) ?_
 rintro w65 hs67
 refine c_nil (n_then (c_seq (c_region (st (v:=.bool true) (x_assign .const) ?_))))
 refine c_nil (n_then ?_)
 refine c_cut (fun ρ w => ∃ (H68:Hp) (i3:(GViewID × Bool) × List Nat × Bool) (A1:Option Addr) (n1:Nat) (c1:Nat),ρ 2 = .pointer (some ⟨g1,0,none⟩)∧ρ 6 = .pointer (some ⟨g36,0,none⟩)∧ρ 7 = .pointer (some ⟨g60,0,none⟩)∧ρ 8 = .bool i3.1.2∧(H29.le H68)∧(Bs H68 A1 n1 c1 i3.2.1)∧(n1 ≤ 140737488355320)∧(q39.1 = 1 → i3 = ((GViewID.mk 0 0,true),q50.2))∧(q39.1 ≠ 1 → i3 = rdVC q50.2.1 q50.2.2)∧(i3.1.1.N < 18446744073709551616)∧(IB i3.1.1.P)∧St H68 w (obj g36 98 [.slice A1 n1 c1,.bool i3.2.2]::obj g60 30 [.int .u8 ((q39.1:Nat):Int),.int .i64 ((q50.1:Nat):Int),.int .u64 ((i3.1.1.N:Nat):Int),.int .i64 i3.1.1.P,.int .u16 0,.int .u64 0,.int .i64 0,.int .u64 0,.int .i64 0,.slice none 0 0,.int .u64 0,.slice none 0 0,.slice none 0 0,.int .u64 0,.int .u64 0]::obj g1 30 [.int .u8 0,.int .i64 0,.int .u64 0,.int .i64 0,.int .u16 0,.int .u64 0,.int .i64 0,.int .u64 0,.int .i64 0,.slice none 0 0,.int .u64 0,.slice none 0 0,.slice none 0 0,.int .u64 0,.int .u64 0]::(row 5 1 (.slice A_b b.length c_b) b.length (b.map encB)::L))) ?_ ?_
 refine c_seq (c_region (st (v:=.pointer (some ⟨g60,0 + 0,none⟩)) (fa30_0 (.tmp rfl rfl)) ?_))
 refine st (v:=.int .u8 ((q39.1:Nat):Int)) (ld5 (.tmp rfl rfl) (hs67.cell 0 rfl (0 + 0) rfl)) ?_
 refine st (v:=.bool (decide ((((q39.1:Nat):Int):Int) ≠ 1))) (x_neq (k:=.u8) (a:=((q39.1:Nat):Int)) (b:=1) (.tmp rfl rfl) .const) ?_
 refine c_nil (n_then ?_)
 rcases Bool.eq_false_or_eq_true (decide ((((q39.1:Nat):Int):Int) ≠ 1)) with hc70 | hc70
 have hp70:(((q39.1:Nat):Int):Int) ≠ 1:=of_decide_eq_true hc70
 refine c_cond_t (t:=true) (.tmp rfl (cVb hc70)) rfl ?_
 refine c_region (st (v:=.pointer (some ⟨g36,0,none⟩)) (x_move (.tmp rfl rfl)) ?_)
 have hs71:=hs67.p1
 refine st_c cb34 .func (evs1 (.tmp rfl rfl)) (vdec_spec hs71 hp58 (by omega) ) ?_
 rintro e w73 ⟨cs75,q72,A77,n78,c79,rfl,hr76,hq80,hp81,hn82,hs74⟩
 obtain ⟨rfl,b83,⟨b84,b85⟩⟩:=hr76
 refine ⟨_,rfl,?_⟩
 refine st (v:=.tuple #[.agg #[.int .u64 ((q72.1.1.N:Nat):Int),.int .i64 q72.1.1.P],.bool q72.1.2]) (x_move (.tmp rfl rfl)) ?_
 refine st (v:=.agg #[.int .u64 ((q72.1.1.N:Nat):Int),.int .i64 q72.1.1.P]) (x_extract (.tmp rfl rfl) (i:=0) rfl) ?_
 refine st (v:=.bool q72.1.2) (x_extract (.tmp rfl rfl) (i:=1) rfl) ?_
 refine st (v:=.pointer (some ⟨g60,0 + 2,none⟩)) (fa30_2 (.tmp rfl rfl)) ?_
 have hs86:=hs74.p1
 refine st_m0 (sto24 (cs':=[.int .u8 ((q39.1:Nat):Int),.int .i64 ((q50.1:Nat):Int),.int .u64 ((q72.1.1.N:Nat):Int),.int .i64 q72.1.1.P,.int .u16 0,.int .u64 0,.int .i64 0,.int .u64 0,.int .i64 0,.slice none 0 0,.int .u64 0,.slice none 0 0,.slice none 0 0,.int .u64 0,.int .u64 0]) (i:=0 + 2) hs86 (v:=.agg #[.int .u64 ((q72.1.1.N:Nat):Int),.int .i64 q72.1.1.P]) (.tmp rfl rfl) (.tmp rfl rfl) rfl (Nat.le_of_ble_eq_true rfl) (oneA rfl) rfl) ?_
 rintro w87 hs89
 refine st (v:=.bool q72.1.2) (x_assign (.tmp rfl rfl)) ?_
 refine c_nil ?_
 exact n_then ⟨_,rfl,H29,q72,A77,n78,c79,rfl,rfl,rfl,rfl,(Hp.le.refl _),hp81,(by omega),(fun h => absurd h (by omega)),(fun _ => hq80),b83,⟨b84,b85⟩,(((hs89.p2).p1).p2)⟩
 have hp70:¬ ((((q39.1:Nat):Int):Int) ≠ 1):=of_decide_eq_false hc70
 refine c_cond_f (t:=false) (.tmp rfl (cVb hc70)) rfl ?_
 refine c_skip ?_
 exact n_then ⟨_,rfl,H29,((GViewID.mk 0 0,true),q50.2),A51,n52,c53,rfl,rfl,rfl,rfl,(Hp.le.refl _),hp58,(by omega),(fun _ => rfl),(fun h => absurd (show q39.1 = 1 by omega) h),(show (0:Nat) < 18446744073709551616 by decide),(show IB 0 from ⟨by decide,by decide⟩),(((hs67.p2).p1).p2)⟩
 rintro ρ w ⟨H68,i3,A1,n1,c1,hρ90,hρ91,hρ92,hρ93,hg69,hp1,hn1,h1i,h2i,hN,hP,hs94⟩
 refine c_seq (c_region (st (v:=.bool true) (x_assign .const) ?_))
 refine c_nil (n_then ?_)
 refine c_cut (fun ρ w => ∃ (H95:Hp) (ok3:Bool) (fine3:Bool) (g3:GFrame) (cs3:List Value) (A3:Option Addr) (n3:Nat) (c3:Nat) (cur3:List Nat) (bad3:Bool),ρ 2 = .pointer (some ⟨g1,0,none⟩)∧ρ 6 = .pointer (some ⟨g36,0,none⟩)∧ρ 7 = .pointer (some ⟨g60,0,none⟩)∧ρ 8 = .bool ok3∧ρ 9 = .bool fine3∧(H68.le H95)∧(Bs H95 A3 n3 c3 cur3)∧(kFrameP.rep H95 g3 cs3)∧(decA b = finC g3 ok3 fine3 (cur3,bad3))∧St H95 w (obj g36 98 [.slice A3 n3 c3,.bool bad3]::obj g60 30 cs3::obj g1 30 [.int .u8 0,.int .i64 0,.int .u64 0,.int .i64 0,.int .u16 0,.int .u64 0,.int .i64 0,.int .u64 0,.int .i64 0,.slice none 0 0,.int .u64 0,.slice none 0 0,.slice none 0 0,.int .u64 0,.int .u64 0]::(row 5 1 (.slice A_b b.length c_b) b.length (b.map encB)::L))) ?_ ?_
 refine c_seq (c_region (st (v:=.pointer (some ⟨g60,0 + 0,none⟩)) (fa30_0 (.tmp rfl hρ92)) ?_))
 refine st (v:=.int .u8 ((q39.1:Nat):Int)) (ld5 (.tmp rfl rfl) (hs94.cell 1 rfl (0 + 0) rfl)) ?_
 refine c_nil (n_then (c_block (c_seq (c_region (st (v:=.bool (decide ((((q39.1:Nat):Int):Int) = 1))) (x_eql (k:=.u8) (a:=((q39.1:Nat):Int)) (b:=1) (.tmp rfl rfl) .const) ?_)))))
 refine st (v:=.bool (decide ((((q39.1:Nat):Int):Int) = 1))) (x_assign (.tmp rfl rfl)) ?_
 refine c_nil (n_then ?_)
 rcases Bool.eq_false_or_eq_true (decide ((((q39.1:Nat):Int):Int) = 1)) with hc97 | hc97
 have hp97:(((q39.1:Nat):Int):Int) = 1:=of_decide_eq_true hc97
 refine c_cond_t (t:=true) (.tmp rfl (cVb hc97)) rfl ?_
 refine c_seq (c_region (st (v:=.pointer (some ⟨g36,0,none⟩)) (x_move (.tmp rfl hρ91)) ?_))
 refine st_c cb34 .func (evs1 (.tmp rfl rfl)) (vdec_spec hs94 hp1 (by omega) ) ?_
 rintro e w99 ⟨cs101,q98,A103,n104,c105,rfl,hr102,hq106,hp107,hn108,hs100⟩
 obtain ⟨rfl,b109,⟨b110,b111⟩⟩:=hr102
 refine ⟨_,rfl,?_⟩
 refine st (v:=.tuple #[.agg #[.int .u64 ((q98.1.1.N:Nat):Int),.int .i64 q98.1.1.P],.bool q98.1.2]) (x_move (.tmp rfl rfl)) ?_
 refine st (v:=.agg #[.int .u64 ((q98.1.1.N:Nat):Int),.int .i64 q98.1.1.P]) (x_extract (.tmp rfl rfl) (i:=0) rfl) ?_
 refine st (v:=.bool q98.1.2) (x_extract (.tmp rfl rfl) (i:=1) rfl) ?_
 refine st (v:=.pointer (some ⟨g60,0 + 5,none⟩)) (fa30_4 (.tmp rfl hρ92)) ?_
 have hs112:=hs100.p1
 refine st_m0 (sto24 (cs':=[.int .u8 ((q39.1:Nat):Int),.int .i64 ((q50.1:Nat):Int),.int .u64 ((i3.1.1.N:Nat):Int),.int .i64 i3.1.1.P,.int .u16 0,.int .u64 ((q98.1.1.N:Nat):Int),.int .i64 q98.1.1.P,.int .u64 0,.int .i64 0,.slice none 0 0,.int .u64 0,.slice none 0 0,.slice none 0 0,.int .u64 0,.int .u64 0]) (i:=0 + 5) hs112 (v:=.agg #[.int .u64 ((q98.1.1.N:Nat):Int),.int .i64 q98.1.1.P]) (.tmp rfl rfl) (.tmp rfl rfl) rfl (Nat.le_of_ble_eq_true rfl) (oneA rfl) rfl) ?_
 rintro w113 hs115
 refine st (v:=.bool q98.1.2) (x_assign (.tmp rfl rfl)) ?_
 refine c_nil (n_then (c_region (st (v:=.pointer (some ⟨g36,0,none⟩)) (x_move (.tmp rfl hρ91)) ?_)))
 have hs116:=hs115.p1
 refine st_c cb34 .func (evs1 (.tmp rfl rfl)) (vdec_spec hs116 hp107 (by omega) ) ?_
 rintro e w118 ⟨cs120,q117,A122,n123,c124,rfl,hr121,hq125,hp126,hn127,hs119⟩
 obtain ⟨rfl,b128,⟨b129,b130⟩⟩:=hr121
 refine ⟨_,rfl,?_⟩
 refine st (v:=.tuple #[.agg #[.int .u64 ((q117.1.1.N:Nat):Int),.int .i64 q117.1.1.P],.bool q117.1.2]) (x_move (.tmp rfl rfl)) ?_
 refine st (v:=.agg #[.int .u64 ((q117.1.1.N:Nat):Int),.int .i64 q117.1.1.P]) (x_extract (.tmp rfl rfl) (i:=0) rfl) ?_
 refine st (v:=.bool q117.1.2) (x_extract (.tmp rfl rfl) (i:=1) rfl) ?_
 refine st (v:=.pointer (some ⟨g60,0 + 7,none⟩)) (fa30_5 (.tmp rfl hρ92)) ?_
 have hs131:=hs119.p1
 refine st_m0 (sto24 (cs':=[.int .u8 ((q39.1:Nat):Int),.int .i64 ((q50.1:Nat):Int),.int .u64 ((i3.1.1.N:Nat):Int),.int .i64 i3.1.1.P,.int .u16 0,.int .u64 ((q98.1.1.N:Nat):Int),.int .i64 q98.1.1.P,.int .u64 ((q117.1.1.N:Nat):Int),.int .i64 q117.1.1.P,.slice none 0 0,.int .u64 0,.slice none 0 0,.slice none 0 0,.int .u64 0,.int .u64 0]) (i:=0 + 7) hs131 (v:=.agg #[.int .u64 ((q117.1.1.N:Nat):Int),.int .i64 q117.1.1.P]) (.tmp rfl rfl) (.tmp rfl rfl) rfl (Nat.le_of_ble_eq_true rfl) (oneA rfl) rfl) ?_
 rintro w132 hs134
 refine st (v:=.bool q117.1.2) (x_assign (.tmp rfl rfl)) ?_
 refine c_nil (n_block ?_)
 have hd0:decA b = decP (openL b).1:=decA_read (by omega) (Classical.not_not.1 hp23)
 have hd1:=dec_head hd0 hq44 hq55
 have hd:=dec_1' hd1 (by omega) h1i hq106 hq125
 exact n_then ⟨_,rfl,H68,q98.1.2,q117.1.2,(GFrame.mk q39.1 ((q50.1:Nat):Int) i3.1.1 0 q98.1.1 q117.1.1 [] 0 [] [] 0 0),[.int .u8 ((q39.1:Nat):Int),.int .i64 ((q50.1:Nat):Int),.int .u64 ((i3.1.1.N:Nat):Int),.int .i64 i3.1.1.P,.int .u16 0,.int .u64 ((q98.1.1.N:Nat):Int),.int .i64 q98.1.1.P,.int .u64 ((q117.1.1.N:Nat):Int),.int .i64 q117.1.1.P,.slice none 0 0,.int .u64 0,.slice none 0 0,.slice none 0 0,.int .u64 0,.int .u64 0],A122,n123,c124,q117.2.1,q117.2.2,hρ90,hρ91,hρ92,rfl,rfl,(Hp.le.refl _),hp126,⟨none,0,0,none,0,0,none,0,0,rfl,hb49,(show IB ((q50.1:Nat):Int) from ⟨by omega,by omega⟩),hN,hP,(show 0 < 65536 from by omega),b109,⟨b110,b111⟩,b128,⟨b129,b130⟩,(Sl.nil _ _ none),(show 0 < 18446744073709551616 from by omega),(Sl.nil _ _ none),(Sl.nil _ _ none),(show 0 < 18446744073709551616 from by omega),(show 0 < 18446744073709551616 from by omega)⟩,hd,(((hs134.p2).p1).p2)⟩
 have hp97:¬ ((((q39.1:Nat):Int):Int) = 1):=of_decide_eq_false hc97
 refine c_cond_f (t:=false) (.tmp rfl (cVb hc97)) rfl ?_
 refine c_seq (c_region (st (v:=.bool (decide ((((q39.1:Nat):Int):Int) = 2))) (x_eql (k:=.u8) (a:=((q39.1:Nat):Int)) (b:=2) (.tmp rfl rfl) .const) ?_))
 refine st (v:=.bool (decide ((((q39.1:Nat):Int):Int) = 2))) (x_assign (.tmp rfl rfl)) ?_
 refine c_nil (n_then ?_)
 rcases Bool.eq_false_or_eq_true (decide ((((q39.1:Nat):Int):Int) = 2)) with hc135 | hc135
 have hp135:(((q39.1:Nat):Int):Int) = 2:=of_decide_eq_true hc135
 refine c_cond_t (t:=true) (.tmp rfl (cVb hc135)) rfl ?_
 refine c_region (st (v:=.pointer (some ⟨g36,0,none⟩)) (x_move (.tmp rfl hρ91)) ?_)
 refine st_c cb33 .func (evs2 (.tmp rfl rfl) .const) (int_q hp1 i3.2.2 65535 (by omega) (by omega) hs94) ?_
 rintro e w140 ⟨q136,A137,n138,c139,hq141,hb142,hn143,rfl,hp144,hs145⟩
 refine ⟨_,rfl,?_⟩
 have hb146:q136.1 < 65536:=by omega
 refine st (v:=.int .u16 ((q136.1:Nat):Int)) (x_conv (k:=.i64) (a:=((q136.1:Nat):Int)) Try.underlying3 Try.underlying25 (.tmp rfl rfl) (wU rfl rfl hb146)) ?_
 refine st (v:=.pointer (some ⟨g60,0 + 4,none⟩)) (fa30_3 (.tmp rfl hρ92)) ?_
 have hs147:=hs145.p1
 refine st_m0 (sto25 (cs':=[.int .u8 ((q39.1:Nat):Int),.int .i64 ((q50.1:Nat):Int),.int .u64 ((i3.1.1.N:Nat):Int),.int .i64 i3.1.1.P,.int .u16 ((q136.1:Nat):Int),.int .u64 0,.int .i64 0,.int .u64 0,.int .i64 0,.slice none 0 0,.int .u64 0,.slice none 0 0,.slice none 0 0,.int .u64 0,.int .u64 0]) (i:=0 + 4) hs147 (v:=.int .u16 ((q136.1:Nat):Int)) (.tmp rfl rfl) (.tmp rfl rfl) rfl (Nat.le_of_ble_eq_true rfl) one1 rfl) ?_
 rintro w148 hs150
 refine c_nil (n_block ?_)
 have hd0:decA b = decP (openL b).1:=decA_read (by omega) (Classical.not_not.1 hp23)
 have hd1:=dec_head hd0 hq44 hq55
 have hd2:=dec_i' hd1 (by omega) h2i
 have hd:=dec_2 hd2 (by omega) hq141
 exact n_then ⟨_,rfl,H68,i3.1.2,true,(GFrame.mk q39.1 ((q50.1:Nat):Int) i3.1.1 q136.1 (GViewID.mk 0 0) (GViewID.mk 0 0) [] 0 [] [] 0 0),[.int .u8 ((q39.1:Nat):Int),.int .i64 ((q50.1:Nat):Int),.int .u64 ((i3.1.1.N:Nat):Int),.int .i64 i3.1.1.P,.int .u16 ((q136.1:Nat):Int),.int .u64 0,.int .i64 0,.int .u64 0,.int .i64 0,.slice none 0 0,.int .u64 0,.slice none 0 0,.slice none 0 0,.int .u64 0,.int .u64 0],A137,n138,c139,q136.2.1,q136.2.2,hρ90,hρ91,hρ92,hρ93,rfl,(Hp.le.refl _),hp144,⟨none,0,0,none,0,0,none,0,0,rfl,hb49,(show IB ((q50.1:Nat):Int) from ⟨by omega,by omega⟩),hN,hP,hb146,(show 0 < 18446744073709551616 from by omega),(show IB 0 from ⟨by omega,by omega⟩),(show 0 < 18446744073709551616 from by omega),(show IB 0 from ⟨by omega,by omega⟩),(Sl.nil _ _ none),(show 0 < 18446744073709551616 from by omega),(Sl.nil _ _ none),(Sl.nil _ _ none),(show 0 < 18446744073709551616 from by omega),(show 0 < 18446744073709551616 from by omega)⟩,hd,(((hs150.p2).p1).p2)⟩
 have hp135:¬ ((((q39.1:Nat):Int):Int) = 2):=of_decide_eq_false hc135
 refine c_cond_f (t:=false) (.tmp rfl (cVb hc135)) rfl ?_
 refine c_seq (c_region (st (v:=.bool (decide ((((q39.1:Nat):Int):Int) = 4))) (x_eql (k:=.u8) (a:=((q39.1:Nat):Int)) (b:=4) (.tmp rfl rfl) .const) ?_))
 refine st (v:=.bool (decide ((((q39.1:Nat):Int):Int) = 4))) (x_assign (.tmp rfl rfl)) ?_
 refine c_nil (n_then ?_)
 rcases Bool.eq_false_or_eq_true (decide ((((q39.1:Nat):Int):Int) = 4)) with hc151 | hc151
 have hp151:(((q39.1:Nat):Int):Int) = 4:=of_decide_eq_true hc151
 refine c_cond_t (t:=true) (.tmp rfl (cVb hc151)) rfl ?_
 refine c_region (st (v:=.pointer (some ⟨g36,0,none⟩)) (x_move (.tmp rfl hρ91)) ?_)
 refine st_c cb34 .func (evs1 (.tmp rfl rfl)) (vdec_spec hs94 hp1 (by omega) ) ?_
 rintro e w153 ⟨cs155,q152,A157,n158,c159,rfl,hr156,hq160,hp161,hn162,hs154⟩
 obtain ⟨rfl,b163,⟨b164,b165⟩⟩:=hr156
 refine ⟨_,rfl,?_⟩
 refine st (v:=.tuple #[.agg #[.int .u64 ((q152.1.1.N:Nat):Int),.int .i64 q152.1.1.P],.bool q152.1.2]) (x_move (.tmp rfl rfl)) ?_
 refine st (v:=.agg #[.int .u64 ((q152.1.1.N:Nat):Int),.int .i64 q152.1.1.P]) (x_extract (.tmp rfl rfl) (i:=0) rfl) ?_
 refine st (v:=.bool q152.1.2) (x_extract (.tmp rfl rfl) (i:=1) rfl) ?_
 refine st (v:=.pointer (some ⟨g60,0 + 7,none⟩)) (fa30_5 (.tmp rfl hρ92)) ?_
 have hs166:=hs154.p1
 refine st_m0 (sto24 (cs':=[.int .u8 ((q39.1:Nat):Int),.int .i64 ((q50.1:Nat):Int),.int .u64 ((i3.1.1.N:Nat):Int),.int .i64 i3.1.1.P,.int .u16 0,.int .u64 0,.int .i64 0,.int .u64 ((q152.1.1.N:Nat):Int),.int .i64 q152.1.1.P,.slice none 0 0,.int .u64 0,.slice none 0 0,.slice none 0 0,.int .u64 0,.int .u64 0]) (i:=0 + 7) hs166 (v:=.agg #[.int .u64 ((q152.1.1.N:Nat):Int),.int .i64 q152.1.1.P]) (.tmp rfl rfl) (.tmp rfl rfl) rfl (Nat.le_of_ble_eq_true rfl) (oneA rfl) rfl) ?_
 rintro w167 hs169
 refine st (v:=.bool q152.1.2) (x_assign (.tmp rfl rfl)) ?_
 refine c_nil (n_block ?_)
 have hd0:decA b = decP (openL b).1:=decA_read (by omega) (Classical.not_not.1 hp23)
 have hd1:=dec_head hd0 hq44 hq55
 have hd2:=dec_i' hd1 (by omega) h2i
 have hd:=dec_4 hd2 (by omega) hq160
 exact n_then ⟨_,rfl,H68,i3.1.2,q152.1.2,(GFrame.mk q39.1 ((q50.1:Nat):Int) i3.1.1 0 (GViewID.mk 0 0) q152.1.1 [] 0 [] [] 0 0),[.int .u8 ((q39.1:Nat):Int),.int .i64 ((q50.1:Nat):Int),.int .u64 ((i3.1.1.N:Nat):Int),.int .i64 i3.1.1.P,.int .u16 0,.int .u64 0,.int .i64 0,.int .u64 ((q152.1.1.N:Nat):Int),.int .i64 q152.1.1.P,.slice none 0 0,.int .u64 0,.slice none 0 0,.slice none 0 0,.int .u64 0,.int .u64 0],A157,n158,c159,q152.2.1,q152.2.2,hρ90,hρ91,hρ92,hρ93,rfl,(Hp.le.refl _),hp161,⟨none,0,0,none,0,0,none,0,0,rfl,hb49,(show IB ((q50.1:Nat):Int) from ⟨by omega,by omega⟩),hN,hP,(show 0 < 65536 from by omega),(show 0 < 18446744073709551616 from by omega),(show IB 0 from ⟨by omega,by omega⟩),b163,⟨b164,b165⟩,(Sl.nil _ _ none),(show 0 < 18446744073709551616 from by omega),(Sl.nil _ _ none),(Sl.nil _ _ none),(show 0 < 18446744073709551616 from by omega),(show 0 < 18446744073709551616 from by omega)⟩,hd,(((hs169.p2).p1).p2)⟩
 have hp151:¬ ((((q39.1:Nat):Int):Int) = 4):=of_decide_eq_false hc151
 refine c_cond_f (t:=false) (.tmp rfl (cVb hc151)) rfl ?_
 refine c_seq (c_region (st (v:=.bool (decide ((((q39.1:Nat):Int):Int) = 3))) (x_eql (k:=.u8) (a:=((q39.1:Nat):Int)) (b:=3) (.tmp rfl rfl) .const) ?_))
 refine st (v:=.bool (decide ((((q39.1:Nat):Int):Int) = 3))) (x_assign (.tmp rfl rfl)) ?_
 refine c_nil (n_then ?_)
 rcases Bool.eq_false_or_eq_true (decide ((((q39.1:Nat):Int):Int) = 3)) with hc170 | hc170
 have hp170:(((q39.1:Nat):Int):Int) = 3:=of_decide_eq_true hc170
 refine c_cond_t (t:=true) (.tmp rfl (cVb hc170)) rfl ?_
 refine c_region (st (v:=.pointer (some ⟨g36,0,none⟩)) (x_move (.tmp rfl hρ91)) ?_)
 refine st_c cb35 .func (evs1 (.tmp rfl rfl)) (statesdec_spec hs94 hp1 (by omega) ) ?_
 rintro e w172 ⟨H174,A176,n177,c178,q171,A180,n181,c182,hle175,rfl,sp179,hq183,hp184,hn185,hs173⟩
 have:=sp179.len; have:=sp179.le; have:n177 * 48 ≤ 140737488351232:=sp179.bnd
 refine ⟨_,rfl,?_⟩
 refine st (v:=.tuple #[.slice A176 n177 c178,.bool q171.1.2]) (x_move (.tmp rfl rfl)) ?_
 refine st (v:=.slice A176 n177 c178) (x_extract (.tmp rfl rfl) (i:=0) rfl) ?_
 refine st (v:=.bool q171.1.2) (x_extract (.tmp rfl rfl) (i:=1) rfl) ?_
 refine st (v:=.pointer (some ⟨g60,0 + 9,none⟩)) (fa30_6 (.tmp rfl hρ92)) ?_
 have hs186:=hs173.p1
 refine st_m0 (sto26 (cs':=[.int .u8 ((q39.1:Nat):Int),.int .i64 ((q50.1:Nat):Int),.int .u64 ((i3.1.1.N:Nat):Int),.int .i64 i3.1.1.P,.int .u16 0,.int .u64 0,.int .i64 0,.int .u64 0,.int .i64 0,.slice A176 n177 c178,.int .u64 0,.slice none 0 0,.slice none 0 0,.int .u64 0,.int .u64 0]) (i:=0 + 9) hs186 (v:=.slice A176 n177 c178) (.tmp rfl rfl) (.tmp rfl rfl) rfl (Nat.le_of_ble_eq_true rfl) one1 rfl) ?_
 rintro w187 hs189
 refine st (v:=.bool q171.1.2) (x_assign (.tmp rfl rfl)) ?_
 refine c_nil (n_block ?_)
 have hd0:decA b = decP (openL b).1:=decA_read (by omega) (Classical.not_not.1 hp23)
 have hd1:=dec_head hd0 hq44 hq55
 have hd2:=dec_i' hd1 (by omega) h2i
 have hd:=dec_3 hd2 (by omega) hq183
 exact n_then ⟨_,rfl,H174,i3.1.2,q171.1.2,(GFrame.mk q39.1 ((q50.1:Nat):Int) i3.1.1 0 (GViewID.mk 0 0) (GViewID.mk 0 0) q171.1.1 0 [] [] 0 0),[.int .u8 ((q39.1:Nat):Int),.int .i64 ((q50.1:Nat):Int),.int .u64 ((i3.1.1.N:Nat):Int),.int .i64 i3.1.1.P,.int .u16 0,.int .u64 0,.int .i64 0,.int .u64 0,.int .i64 0,.slice A176 n177 c178,.int .u64 0,.slice none 0 0,.slice none 0 0,.int .u64 0,.int .u64 0],A180,n181,c182,q171.2.1,q171.2.2,hρ90,hρ91,hρ92,hρ93,rfl,hle175,hp184,⟨A176,n177,c178,none,0,0,none,0,0,rfl,hb49,(show IB ((q50.1:Nat):Int) from ⟨by omega,by omega⟩),hN,hP,(show 0 < 65536 from by omega),(show 0 < 18446744073709551616 from by omega),(show IB 0 from ⟨by omega,by omega⟩),(show 0 < 18446744073709551616 from by omega),(show IB 0 from ⟨by omega,by omega⟩),sp179,(show 0 < 18446744073709551616 from by omega),(Sl.nil _ _ none),(Sl.nil _ _ none),(show 0 < 18446744073709551616 from by omega),(show 0 < 18446744073709551616 from by omega)⟩,hd,(((hs189.p2).p1).p2)⟩
 have hp170:¬ ((((q39.1:Nat):Int):Int) = 3):=of_decide_eq_false hc170
 refine c_cond_f (t:=false) (.tmp rfl (cVb hc170)) rfl ?_
 refine c_seq (c_region (st (v:=.bool (decide ((((q39.1:Nat):Int):Int) = 5))) (x_eql (k:=.u8) (a:=((q39.1:Nat):Int)) (b:=5) (.tmp rfl rfl) .const) ?_))
 refine st (v:=.bool (decide ((((q39.1:Nat):Int):Int) = 5))) (x_assign (.tmp rfl rfl)) ?_
 refine c_nil (n_then ?_)
 rcases Bool.eq_false_or_eq_true (decide ((((q39.1:Nat):Int):Int) = 5)) with hc190 | hc190
 have hp190:(((q39.1:Nat):Int):Int) = 5:=of_decide_eq_true hc190
 refine c_cond_t (t:=true) (.tmp rfl (cVb hc190)) rfl ?_
 refine c_seq (c_region (st (v:=.pointer (some ⟨g36,0,none⟩)) (x_move (.tmp rfl hρ91)) ?_))
 refine st_c cb33 .func (evs2 (.tmp rfl rfl) .const) (int_q hp1 i3.2.2 65535 (by omega) (by omega) hs94) ?_
 rintro e w195 ⟨q191,A192,n193,c194,hq196,hb197,hn198,rfl,hp199,hs200⟩
 refine ⟨_,rfl,?_⟩
 have hb201:q191.1 < 65536:=by omega
 refine st (v:=.int .u16 ((q191.1:Nat):Int)) (x_conv (k:=.i64) (a:=((q191.1:Nat):Int)) Try.underlying3 Try.underlying25 (.tmp rfl rfl) (wU rfl rfl hb201)) ?_
 refine st (v:=.pointer (some ⟨g60,0 + 4,none⟩)) (fa30_3 (.tmp rfl hρ92)) ?_
 have hs202:=hs200.p1
 refine st_m0 (sto25 (cs':=[.int .u8 ((q39.1:Nat):Int),.int .i64 ((q50.1:Nat):Int),.int .u64 ((i3.1.1.N:Nat):Int),.int .i64 i3.1.1.P,.int .u16 ((q191.1:Nat):Int),.int .u64 0,.int .i64 0,.int .u64 0,.int .i64 0,.slice none 0 0,.int .u64 0,.slice none 0 0,.slice none 0 0,.int .u64 0,.int .u64 0]) (i:=0 + 4) hs202 (v:=.int .u16 ((q191.1:Nat):Int)) (.tmp rfl rfl) (.tmp rfl rfl) rfl (Nat.le_of_ble_eq_true rfl) one1 rfl) ?_
 rintro w203 hs205
 refine c_nil (n_then (c_region (st (v:=.pointer (some ⟨g36,0,none⟩)) (x_move (.tmp rfl hρ91)) ?_)))
 have hs206:=hs205.p1
 refine st_c cb35 .func (evs1 (.tmp rfl rfl)) (statesdec_spec hs206 hp199 (by omega) ) ?_
 rintro e w208 ⟨H210,A212,n213,c214,q207,A216,n217,c218,hle211,rfl,sp215,hq219,hp220,hn221,hs209⟩
 have:=sp215.len; have:=sp215.le; have:n213 * 48 ≤ 140737488351232:=sp215.bnd
 refine ⟨_,rfl,?_⟩
 refine st (v:=.tuple #[.slice A212 n213 c214,.bool q207.1.2]) (x_move (.tmp rfl rfl)) ?_
 refine st (v:=.slice A212 n213 c214) (x_extract (.tmp rfl rfl) (i:=0) rfl) ?_
 refine st (v:=.bool q207.1.2) (x_extract (.tmp rfl rfl) (i:=1) rfl) ?_
 refine st (v:=.pointer (some ⟨g60,0 + 9,none⟩)) (fa30_6 (.tmp rfl hρ92)) ?_
 have hs222:=hs209.p1
 refine st_m0 (sto26 (cs':=[.int .u8 ((q39.1:Nat):Int),.int .i64 ((q50.1:Nat):Int),.int .u64 ((i3.1.1.N:Nat):Int),.int .i64 i3.1.1.P,.int .u16 ((q191.1:Nat):Int),.int .u64 0,.int .i64 0,.int .u64 0,.int .i64 0,.slice A212 n213 c214,.int .u64 0,.slice none 0 0,.slice none 0 0,.int .u64 0,.int .u64 0]) (i:=0 + 9) hs222 (v:=.slice A212 n213 c214) (.tmp rfl rfl) (.tmp rfl rfl) rfl (Nat.le_of_ble_eq_true rfl) one1 rfl) ?_
 rintro w223 hs225
 refine st (v:=.bool q207.1.2) (x_assign (.tmp rfl rfl)) ?_
 refine c_nil (n_block ?_)
 have hd0:decA b = decP (openL b).1:=decA_read (by omega) (Classical.not_not.1 hp23)
 have hd1:=dec_head hd0 hq44 hq55
 have hd2:=dec_i' hd1 (by omega) h2i
 have hd:=dec_5 hd2 (by omega) hq196 hq219
 exact n_then ⟨_,rfl,H210,i3.1.2,q207.1.2,(GFrame.mk q39.1 ((q50.1:Nat):Int) i3.1.1 q191.1 (GViewID.mk 0 0) (GViewID.mk 0 0) q207.1.1 0 [] [] 0 0),[.int .u8 ((q39.1:Nat):Int),.int .i64 ((q50.1:Nat):Int),.int .u64 ((i3.1.1.N:Nat):Int),.int .i64 i3.1.1.P,.int .u16 ((q191.1:Nat):Int),.int .u64 0,.int .i64 0,.int .u64 0,.int .i64 0,.slice A212 n213 c214,.int .u64 0,.slice none 0 0,.slice none 0 0,.int .u64 0,.int .u64 0],A216,n217,c218,q207.2.1,q207.2.2,hρ90,hρ91,hρ92,hρ93,rfl,hle211,hp220,⟨A212,n213,c214,none,0,0,none,0,0,rfl,hb49,(show IB ((q50.1:Nat):Int) from ⟨by omega,by omega⟩),hN,hP,hb201,(show 0 < 18446744073709551616 from by omega),(show IB 0 from ⟨by omega,by omega⟩),(show 0 < 18446744073709551616 from by omega),(show IB 0 from ⟨by omega,by omega⟩),sp215,(show 0 < 18446744073709551616 from by omega),(Sl.nil _ _ none),(Sl.nil _ _ none),(show 0 < 18446744073709551616 from by omega),(show 0 < 18446744073709551616 from by omega)⟩,hd,(((hs225.p2).p1).p2)⟩
 have hp190:¬ ((((q39.1:Nat):Int):Int) = 5):=of_decide_eq_false hc190
 refine c_cond_f (t:=false) (.tmp rfl (cVb hc190)) rfl ?_
 refine c_seq (c_region (st (v:=.bool (decide ((((q39.1:Nat):Int):Int) = 6))) (x_eql (k:=.u8) (a:=((q39.1:Nat):Int)) (b:=6) (.tmp rfl rfl) .const) ?_))
 refine st (v:=.bool (decide ((((q39.1:Nat):Int):Int) = 6))) (x_assign (.tmp rfl rfl)) ?_
 refine c_nil (n_then ?_)
 rcases Bool.eq_false_or_eq_true (decide ((((q39.1:Nat):Int):Int) = 6)) with hc226 | hc226
 have hp226:(((q39.1:Nat):Int):Int) = 6:=of_decide_eq_true hc226
 refine c_cond_t (t:=true) (.tmp rfl (cVb hc226)) rfl ?_
 refine c_seq (c_region (st (v:=.pointer (some ⟨g36,0,none⟩)) (x_move (.tmp rfl hρ91)) ?_))
 refine st_c cb36 .func (evs1 (.tmp rfl rfl)) (uint_q hp1 i3.2.2 hs94) ?_
 rintro e w231 ⟨q227,A228,n229,c230,hq232,hb233,hn234,rfl,hp235,hs236⟩
 refine ⟨_,rfl,?_⟩
 refine st (v:=.pointer (some ⟨g36,0,none⟩)) (x_move (.tmp rfl hρ91)) ?_
 refine st_c cb36 .func (evs1 (.tmp rfl rfl)) (uint_q hp235 q227.2.2 hs236) ?_
 rintro e w241 ⟨q237,A238,n239,c240,hq242,hb243,hn244,rfl,hp245,hs246⟩
 refine ⟨_,rfl,?_⟩
 refine st (v:=.pointer (some ⟨g60,0 + 10,none⟩)) (fa30_7 (.tmp rfl hρ92)) ?_
 have hs247:=hs246.p1
 refine st_m0 (sto22 (cs':=[.int .u8 ((q39.1:Nat):Int),.int .i64 ((q50.1:Nat):Int),.int .u64 ((i3.1.1.N:Nat):Int),.int .i64 i3.1.1.P,.int .u16 0,.int .u64 0,.int .i64 0,.int .u64 0,.int .i64 0,.slice none 0 0,.int .u64 ((q227.1:Nat):Int),.slice none 0 0,.slice none 0 0,.int .u64 0,.int .u64 0]) (i:=0 + 10) hs247 (v:=.int .u64 ((q227.1:Nat):Int)) (.tmp rfl rfl) (.tmp rfl rfl) rfl (Nat.le_of_ble_eq_true rfl) one1 rfl) ?_
 rintro w248 hs250
 refine st (v:=.pointer (some ⟨g60,0 + 13,none⟩)) (fa30_10 (.tmp rfl hρ92)) ?_
 refine st_m0 (sto22 (cs':=[.int .u8 ((q39.1:Nat):Int),.int .i64 ((q50.1:Nat):Int),.int .u64 ((i3.1.1.N:Nat):Int),.int .i64 i3.1.1.P,.int .u16 0,.int .u64 0,.int .i64 0,.int .u64 0,.int .i64 0,.slice none 0 0,.int .u64 ((q227.1:Nat):Int),.slice none 0 0,.slice none 0 0,.int .u64 ((q237.1:Nat):Int),.int .u64 0]) (i:=0 + 13) hs250 (v:=.int .u64 ((q237.1:Nat):Int)) (.tmp rfl rfl) (.tmp rfl rfl) rfl (Nat.le_of_ble_eq_true rfl) one1 rfl) ?_
 rintro w251 hs253
 refine c_nil (n_then (c_seq (c_region ?_)))
 skip
 refine st (v:=.pointer (some ⟨g36,0,none⟩)) (x_move (.tmp rfl hρ91)) ?_
 have hs254:=hs253.p1
 refine st_c cb33 .func (evs2 (.tmp rfl rfl) .const) (int_q hp245 q237.2.2 4096 (by omega) (by omega) hs254) ?_
 rintro e w259 ⟨q255,A256,n257,c258,hq260,hb261,hn262,rfl,hp263,hs264⟩
 refine ⟨_,rfl,?_⟩
 refine st (v:=.int .i64 ((q255.1:Nat):Int)) (x_assign (.tmp rfl rfl)) ?_
 refine c_nil (n_then (c_block ?_))
 have hs266:St H68 _ (row 33 1 (.slice none 0 0) (([]:List (List Nat)).length) []::obj g36 98 [.slice A256 n257 c258,.bool q255.2.2]::obj g60 30 [.int .u8 ((q39.1:Nat):Int),.int .i64 ((q50.1:Nat):Int),.int .u64 ((i3.1.1.N:Nat):Int),.int .i64 i3.1.1.P,.int .u16 0,.int .u64 0,.int .i64 0,.int .u64 0,.int .i64 0,.slice none 0 0,.int .u64 ((q227.1:Nat):Int),.slice none 0 0,.slice none 0 0,.int .u64 ((q237.1:Nat):Int),.int .u64 0]::obj g1 30 [.int .u8 0,.int .i64 0,.int .u64 0,.int .i64 0,.int .u16 0,.int .u64 0,.int .i64 0,.int .u64 0,.int .i64 0,.slice none 0 0,.int .u64 0,.slice none 0 0,.slice none 0 0,.int .u64 0,.int .u64 0]::(row 5 1 (.slice A_b b.length c_b) b.length (b.map encB)::L)):=hs264.krowNil 33 kBsP
 have:([]:List (List Nat)).length = 0:=rfl
 refine c_loop (fun ρ w mm => ∃ (H267:Hp) (k:Int) (A2:Option Addr) (n2:Nat) (c2:Nat) (cur:List Nat) (bad:Bool) (v2:Value) (c9:List Value) (l:List (List Nat)),ρ 2 = .pointer (some ⟨g1,0,none⟩)∧ρ 6 = .pointer (some ⟨g36,0,none⟩)∧ρ 7 = .pointer (some ⟨g60,0,none⟩)∧ρ 8 = .bool i3.1.2∧ρ 9 = .bool true∧ρ 10 = .int .i64 k∧(H68.le H267)∧(Bs H267 A2 n2 c2 cur)∧(n2 ≤ 140737488355320)∧(0 ≤ k)∧(k ≤ 4096)∧((l.length:Int) + k ≤ 4096)∧(RowOk kBsP.sz v2 l.length c9)∧(kBsP.toKn.rows H267 l c9)∧(MsInv q237.2.1 q237.2.2 l k cur bad)∧St H267 w (obj g36 98 [.slice A2 n2 c2,.bool bad]::obj g60 30 [.int .u8 ((q39.1:Nat):Int),.int .i64 ((q50.1:Nat):Int),.int .u64 ((i3.1.1.N:Nat):Int),.int .i64 i3.1.1.P,.int .u16 0,.int .u64 0,.int .i64 0,.int .u64 0,.int .i64 0,.slice none 0 0,.int .u64 ((q227.1:Nat):Int),v2,.slice none 0 0,.int .u64 ((q237.1:Nat):Int),.int .u64 0]::row 33 1 v2 l.length c9::obj g1 30 [.int .u8 0,.int .i64 0,.int .u64 0,.int .i64 0,.int .u16 0,.int .u64 0,.int .i64 0,.int .u64 0,.int .i64 0,.slice none 0 0,.int .u64 0,.slice none 0 0,.slice none 0 0,.int .u64 0,.int .u64 0]::(row 5 1 (.slice A_b b.length c_b) b.length (b.map encB)::L))∧mm = k.toNat) _ ⟨H68,((q255.1:Nat):Int),A256,n257,c258,q255.2.1,q255.2.2,(.slice none 0 0),[],[],hρ90,hρ91,hρ92,hρ93,rfl,rfl,(Hp.le.refl _),hp263,(by omega),(by omega),(by omega),(by omega),(RowOk.knil kBsP),(Kn.rows_nil _ _),(ms_start hq260),((((hs266.p3).p1).p3).p3),rfl⟩ ?_
 rintro ρ w mm ⟨H267,k,A2,n2,c2,cur,bad,v2,c9,l,hρ269,hρ270,hρ271,hρ272,hρ273,hρ274,hg268,hp2,hn2,hk,hk2,hl,okv,hkv,inv,hs275,rfl⟩
 refine c_seq (c_seq (c_region (st (v:=.int .i64 k) (x_move (.tmp rfl hρ274)) ?_)))
 refine st (v:=.bool (decide ((0:Int) < k))) (x_gtr (k:=.i64) (a:=k) (b:=0) (.tmp rfl rfl) .const) ?_
 refine st (v:=.bool (decide ((0:Int) < k))) (x_move (.tmp rfl rfl)) ?_
 rcases Bool.eq_false_or_eq_true (decide ((0:Int) < k)) with hc276 | hc276
 have hp276:(0:Int) < k:=of_decide_eq_true hc276
 refine g_yes (yk 104 true rfl rfl hc276) ?_
 refine st (v:=.pointer (some ⟨g36,0,none⟩)) (x_move (.tmp rfl hρ270)) ?_
 refine g_yes (yk 104 true rfl rfl hc276) ?_
 refine st_c cb37 .func (evs1 (.tmp rfl rfl)) (bad_own hs275) ?_
 rintro e w277 ⟨rfl,hs278⟩
 refine ⟨_,rfl,?_⟩
 refine g_yes (yk 104 true rfl rfl hc276) ?_
 refine st (v:=.bool (!bad)) (x_not (.tmp rfl rfl)) ?_
 refine st (v:=.bool (!bad)) (x_pick_t (.tmp rfl (cVb hc276)) (.tmp rfl rfl)) ?_
 refine c_nil (n_then ?_)
 rcases Bool.eq_false_or_eq_true bad with hc279 | hc279
 refine c_cond_f (t:=false) (.tmp rfl (cVb (by rw [hc279]; rfl))) rfl ?_
 refine c_exit (x_then (x_then (x_here (n_block ?_))))
 have hs280:=hs278.p2
 have:l.length * 24 ≤ 140737488351232:=by omega
 obtain ⟨H281,A282,c283,hle284,hs285,rfl,sp286⟩:=hs280.freezeSl (d:=kBsP) okv hkv this
 have:=sp286.len; have:=sp286.le
 have hd0:decA b = decP (openL b).1:=decA_read (by omega) (Classical.not_not.1 hp23)
 have hd1:=dec_head hd0 hq44 hq55
 have hd2:=dec_i' hd1 (by omega) h2i
 have hms:=ms_done inv (.inr hc279)
 have hd:=dec_6 hd2 (by omega) hq232 hq242 hms
 exact n_then ⟨_,rfl,H281,i3.1.2,true,(GFrame.mk q39.1 ((q50.1:Nat):Int) i3.1.1 0 (GViewID.mk 0 0) (GViewID.mk 0 0) [] q227.1 l [] q237.1 0),[.int .u8 ((q39.1:Nat):Int),.int .i64 ((q50.1:Nat):Int),.int .u64 ((i3.1.1.N:Nat):Int),.int .i64 i3.1.1.P,.int .u16 0,.int .u64 0,.int .i64 0,.int .u64 0,.int .i64 0,.slice none 0 0,.int .u64 ((q227.1:Nat):Int),.slice A282 l.length c283,.slice none 0 0,.int .u64 ((q237.1:Nat):Int),.int .u64 0],A2,n2,c2,cur,bad,hρ269,hρ270,hρ271,hρ272,hρ273,(hg268.trans hle284),(hp2.mono hle284),⟨none,0,0,A282,l.length,c283,none,0,0,rfl,hb49,(show IB ((q50.1:Nat):Int) from ⟨by omega,by omega⟩),hN,hP,(show 0 < 65536 from by omega),(show 0 < 18446744073709551616 from by omega),(show IB 0 from ⟨by omega,by omega⟩),(show 0 < 18446744073709551616 from by omega),(show IB 0 from ⟨by omega,by omega⟩),(Sl.nil _ _ none),hb233,sp286,(Sl.nil _ _ none),hb243,(show 0 < 18446744073709551616 from by omega)⟩,hd,(((hs285.p2).p2).p2)⟩
 refine c_cond_t (t:=true) (.tmp rfl (cVb (by rw [hc279]; rfl))) rfl ?_
 refine c_skip (n_then (c_seq (c_block (t_region (L:=obj g36 98 [.slice A2 n2 c2,.bool bad]::obj g60 30 [.int .u8 ((q39.1:Nat):Int),.int .i64 ((q50.1:Nat):Int),.int .u64 ((i3.1.1.N:Nat):Int),.int .i64 i3.1.1.P,.int .u16 0,.int .u64 0,.int .i64 0,.int .u64 0,.int .i64 0,.slice none 0 0,.int .u64 ((q227.1:Nat):Int),v2,.slice none 0 0,.int .u64 ((q237.1:Nat):Int),.int .u64 0]::row 33 1 v2 l.length c9::obj g1 30 [.int .u8 0,.int .i64 0,.int .u64 0,.int .i64 0,.int .u16 0,.int .u64 0,.int .i64 0,.int .u64 0,.int .i64 0,.slice none 0 0,.int .u64 0,.slice none 0 0,.slice none 0 0,.int .u64 0,.int .u64 0]::(row 5 1 (.slice A_b b.length c_b) b.length (b.map encB)::L)) (L':=obj g60 30 [.int .u8 ((q39.1:Nat):Int),.int .i64 ((q50.1:Nat):Int),.int .u64 ((i3.1.1.N:Nat):Int),.int .i64 i3.1.1.P,.int .u16 0,.int .u64 0,.int .i64 0,.int .u64 0,.int .i64 0,.slice none 0 0,.int .u64 ((q227.1:Nat):Int),v2,.slice none 0 0,.int .u64 ((q237.1:Nat):Int),.int .u64 0]::row 33 1 v2 l.length c9::obj g1 30 [.int .u8 0,.int .i64 0,.int .u64 0,.int .i64 0,.int .u16 0,.int .u64 0,.int .i64 0,.int .u64 0,.int .i64 0,.slice none 0 0,.int .u64 0,.slice none 0 0,.slice none 0 0,.int .u64 0,.int .u64 0]::(row 5 1 (.slice A_b b.length c_b) b.length (b.map encB)::L)) (Z:=[5,7]) (F:=[]) (pl:=(.q 0 (.q 1 (.q 2 (.e 3 (.e 4 (.e 5 (.q 6 (.e 7 .done))))))))) mixed hs278 (fun u hu => hu.drop) (by kernel_rfl) ?_))))
 intro w287 hs288
 refine t_st (k:=0) (v:=.pointer (some ⟨g60,0 + 11,none⟩)) rfl rfl (fun w hs => (fa30_8 (.tmp rfl hρ271))) ?_
 refine t_st (k:=1) (v:=v2) rfl rfl (fun w hs => (ld27 (.tmp rfl rfl) (hs.cell 0 rfl (0 + 11) rfl))) ?_
 refine t_st (k:=2) (v:=.pointer (some ⟨g36,0,none⟩)) rfl rfl (fun w hs => (x_move (.tmp rfl hρ270))) ?_
 refine t_eff (k:=3) rfl ?_
 refine st_c cb38 .func (evs2 (.tmp rfl rfl) .const) (bytes_q hp2 (by omega) bad 1048576 (by omega) (by omega) hs288) ?_
 rintro e w293 ⟨v299,q289,A290,n291,c292,hq294,⟨sm301,hl303,ok302⟩,hn296,rfl,hp297,hs298⟩
 refine ⟨_,rfl,?_⟩
 refine t_on (S':=fun u => St H267 u (obj g60 30 [.int .u8 ((q39.1:Nat):Int),.int .i64 ((q50.1:Nat):Int),.int .u64 ((i3.1.1.N:Nat):Int),.int .i64 i3.1.1.P,.int .u16 0,.int .u64 0,.int .i64 0,.int .u64 0,.int .i64 0,.slice none 0 0,.int .u64 ((q227.1:Nat):Int),v2,.slice none 0 0,.int .u64 ((q237.1:Nat):Int),.int .u64 0]::row 33 1 v2 l.length c9::obj g1 30 [.int .u8 0,.int .i64 0,.int .u64 0,.int .i64 0,.int .u16 0,.int .u64 0,.int .i64 0,.int .u64 0,.int .i64 0,.slice none 0 0,.int .u64 0,.slice none 0 0,.slice none 0 0,.int .u64 0,.int .u64 0]::(row 5 1 (.slice A_b b.length c_b) b.length (b.map encB)::L))) (fun u hu => hu) hs298.drop.drop ?_
 refine t_eff (k:=4) rfl ?_
 obtain ⟨H304,A305,c306,hle307,hs308,rfl,hy309,pl310⟩:=hs298.freezeBsP ok302 sm301 (by omega)
 refine st_m (m_lit (n:=1) (ps:=[(0,.slice A305 q289.1.length c306)]) (cs:=[.slice A305 q289.1.length c306]) Try.underlying27 inf33 (.cons (.tmp rfl rfl) Evp.nil) (by decide) (by decide) rfl rfl hs308) ?_
 rintro _ w312 ⟨g311,rfl,hs314⟩
 refine t_on (S':=fun u => St H304 u (obj g311 33 [.slice A305 q289.1.length c306]::obj g60 30 [.int .u8 ((q39.1:Nat):Int),.int .i64 ((q50.1:Nat):Int),.int .u64 ((i3.1.1.N:Nat):Int),.int .i64 i3.1.1.P,.int .u16 0,.int .u64 0,.int .i64 0,.int .u64 0,.int .i64 0,.slice none 0 0,.int .u64 ((q227.1:Nat):Int),v2,.slice none 0 0,.int .u64 ((q237.1:Nat):Int),.int .u64 0]::row 33 1 v2 l.length c9::obj g1 30 [.int .u8 0,.int .i64 0,.int .u64 0,.int .i64 0,.int .u16 0,.int .u64 0,.int .i64 0,.int .u64 0,.int .i64 0,.slice none 0 0,.int .u64 0,.slice none 0 0,.slice none 0 0,.int .u64 0,.int .u64 0]::(row 5 1 (.slice A_b b.length c_b) b.length (b.map encB)::L))) (fun u hu => hu.drop.weaken hle307) (hs314.p1).drop ?_
 refine t_eff (k:=5) rfl ?_
 have hs315:=hs314.p3
 have hr323:kBsP.rep H304 q289.1 [.slice A305 q289.1.length c306]:=⟨A305,q289.1.length,c306,rfl,hy309,pl310⟩
 refine st_m (m_appK (d:=kBsP) (ys:=[q289.1]) (news:=[.slice A305 q289.1.length c306]) Try.underlying27 inf33 rfl hs315 okv (Kn.rows_mono hkv hle307) (.tmp rfl rfl) (.tmp rfl rfl) (Kn.rows_one hr323) rfl (hs315.at_ 1 rfl 0 rfl) (by have:([q289.1]:List (List Nat)).length = 1:=rfl; omega) (by decide)) ?_
 rintro v316 w317 ⟨cs318,ok319,hk320,hs321⟩
 have hn322:(l ++ [q289.1]).length = l.length + 1:=by simp
 refine t_new (S':=fun u => St H304 u (row 33 1 v316 ((l ++ [q289.1]).length) cs318::obj g311 33 [.slice A305 q289.1.length c306]::obj g36 98 [.slice A290 n291 c292,.bool q289.2.2]::obj g60 30 [.int .u8 ((q39.1:Nat):Int),.int .i64 ((q50.1:Nat):Int),.int .u64 ((i3.1.1.N:Nat):Int),.int .i64 i3.1.1.P,.int .u16 0,.int .u64 0,.int .i64 0,.int .u64 0,.int .i64 0,.slice none 0 0,.int .u64 ((q227.1:Nat):Int),v2,.slice none 0 0,.int .u64 ((q237.1:Nat):Int),.int .u64 0]::obj g1 30 [.int .u8 0,.int .i64 0,.int .u64 0,.int .i64 0,.int .u16 0,.int .u64 0,.int .i64 0,.int .u64 0,.int .i64 0,.slice none 0 0,.int .u64 0,.slice none 0 0,.slice none 0 0,.int .u64 0,.int .u64 0]::(row 5 1 (.slice A_b b.length c_b) b.length (b.map encB)::L))) rfl hs321 ?_
 refine t_st (k:=6) (v:=.pointer (some ⟨g60,0 + 11,none⟩)) rfl rfl (fun w hs => (fa30_8 (.tmp rfl hρ271))) ?_
 refine t_eff (k:=7) rfl ?_
 obtain ⟨A324,c325,rfl,hc326⟩:=ok319.slice
 have hs327:=hs321.p3
 refine st_m0 (sto27 (cs':=[.int .u8 ((q39.1:Nat):Int),.int .i64 ((q50.1:Nat):Int),.int .u64 ((i3.1.1.N:Nat):Int),.int .i64 i3.1.1.P,.int .u16 0,.int .u64 0,.int .i64 0,.int .u64 0,.int .i64 0,.slice none 0 0,.int .u64 ((q227.1:Nat):Int),.slice A324 ((l ++ [q289.1]).length) c325,.slice none 0 0,.int .u64 ((q237.1:Nat):Int),.int .u64 0]) (i:=0 + 11) hs327 (v:=.slice A324 ((l ++ [q289.1]).length) c325) (.tmp rfl rfl) (.tmp rfl rfl) rfl (Nat.le_of_ble_eq_true rfl) one1 rfl) ?_
 rintro w328 hs330
 refine t_new (S':=fun u => St H304 u (obj g60 30 [.int .u8 ((q39.1:Nat):Int),.int .i64 ((q50.1:Nat):Int),.int .u64 ((i3.1.1.N:Nat):Int),.int .i64 i3.1.1.P,.int .u16 0,.int .u64 0,.int .i64 0,.int .u64 0,.int .i64 0,.slice none 0 0,.int .u64 ((q227.1:Nat):Int),.slice A324 ((l ++ [q289.1]).length) c325,.slice none 0 0,.int .u64 ((q237.1:Nat):Int),.int .u64 0]::row 33 1 (.slice A324 ((l ++ [q289.1]).length) c325) ((l ++ [q289.1]).length) cs318::obj g311 33 [.slice A305 q289.1.length c306]::obj g36 98 [.slice A290 n291 c292,.bool q289.2.2]::obj g1 30 [.int .u8 0,.int .i64 0,.int .u64 0,.int .i64 0,.int .u16 0,.int .u64 0,.int .i64 0,.int .u64 0,.int .i64 0,.slice none 0 0,.int .u64 0,.slice none 0 0,.slice none 0 0,.int .u64 0,.int .u64 0]::(row 5 1 (.slice A_b b.length c_b) b.length (b.map encB)::L))) rfl hs330 ?_
 refine t_nil ?_
 refine n_block (n_then (c_region (st (v:=.int .i64 k) (x_move (.tmp rfl hρ274)) ?_)))
 refine st (v:=.int .i64 (k - 1)) (x_sub (k:=.i64) (a:=k) (b:=1) (.tmp rfl rfl) .const (w64 (by omega) (by omega))) ?_
 refine st (v:=.int .i64 (k - 1)) (x_assign (.tmp rfl rfl)) ?_
 refine c_nil ?_
 refine n_then ⟨_,_,rfl,?_,H304,(k - 1),A290,n291,c292,q289.2.1,q289.2.2,(.slice A324 ((l ++ [q289.1]).length) c325),cs318,(l ++ [q289.1]),hρ269,hρ270,hρ271,hρ272,hρ273,rfl,(hg268.trans hle307),(hp297.mono hle307),(by omega),(by omega),(by omega),(by omega),ok319,hk320,(ms_step inv (by omega) hc279 hq294),(((((hs330.p2).drop.p3).p2).p2).p3),rfl⟩
 omega
 have hp276:¬ ((0:Int) < k):=of_decide_eq_false hc276
 refine g_no (yk 104 false rfl rfl hc276) rfl ?_
 refine g_no (yk 104 false rfl rfl hc276) rfl ?_
 refine g_no (yk 104 false rfl rfl hc276) rfl ?_
 refine st (v:=.bool false) (x_pick_f (.tmp rfl (cVb hc276)) .const) ?_
 refine c_nil (n_then (c_cond_f (t:=false) (.tmp rfl rfl) rfl ?_))
 refine c_exit (x_then (x_then (x_here (n_block ?_))))
 have hs331:=hs275.p2
 have:l.length * 24 ≤ 140737488351232:=by omega
 obtain ⟨H332,A333,c334,hle335,hs336,rfl,sp337⟩:=hs331.freezeSl (d:=kBsP) okv hkv this
 have:=sp337.len; have:=sp337.le
 have hd0:decA b = decP (openL b).1:=decA_read (by omega) (Classical.not_not.1 hp23)
 have hd1:=dec_head hd0 hq44 hq55
 have hd2:=dec_i' hd1 (by omega) h2i
 have hms:=ms_done inv (.inl (by omega))
 have hd:=dec_6 hd2 (by omega) hq232 hq242 hms
 exact n_then ⟨_,rfl,H332,i3.1.2,true,(GFrame.mk q39.1 ((q50.1:Nat):Int) i3.1.1 0 (GViewID.mk 0 0) (GViewID.mk 0 0) [] q227.1 l [] q237.1 0),[.int .u8 ((q39.1:Nat):Int),.int .i64 ((q50.1:Nat):Int),.int .u64 ((i3.1.1.N:Nat):Int),.int .i64 i3.1.1.P,.int .u16 0,.int .u64 0,.int .i64 0,.int .u64 0,.int .i64 0,.slice none 0 0,.int .u64 ((q227.1:Nat):Int),.slice A333 l.length c334,.slice none 0 0,.int .u64 ((q237.1:Nat):Int),.int .u64 0],A2,n2,c2,cur,bad,hρ269,hρ270,hρ271,hρ272,hρ273,(hg268.trans hle335),(hp2.mono hle335),⟨none,0,0,A333,l.length,c334,none,0,0,rfl,hb49,(show IB ((q50.1:Nat):Int) from ⟨by omega,by omega⟩),hN,hP,(show 0 < 65536 from by omega),(show 0 < 18446744073709551616 from by omega),(show IB 0 from ⟨by omega,by omega⟩),(show 0 < 18446744073709551616 from by omega),(show IB 0 from ⟨by omega,by omega⟩),(Sl.nil _ _ none),hb233,sp337,(Sl.nil _ _ none),hb243,(show 0 < 18446744073709551616 from by omega)⟩,hd,(((hs336.p2).p2).p2)⟩
 have hp226:¬ ((((q39.1:Nat):Int):Int) = 6):=of_decide_eq_false hc226
 refine c_cond_f (t:=false) (.tmp rfl (cVb hc226)) rfl ?_
 refine c_seq (c_region (st (v:=.bool (decide ((((q39.1:Nat):Int):Int) = 7))) (x_eql (k:=.u8) (a:=((q39.1:Nat):Int)) (b:=7) (.tmp rfl rfl) .const) ?_))
 refine st (v:=.bool (decide ((((q39.1:Nat):Int):Int) = 7))) (x_assign (.tmp rfl rfl)) ?_
 refine c_nil (n_then ?_)
 rcases Bool.eq_false_or_eq_true (decide ((((q39.1:Nat):Int):Int) = 7)) with hc338 | hc338
 have hp338:(((q39.1:Nat):Int):Int) = 7:=of_decide_eq_true hc338
 refine c_cond_t (t:=true) (.tmp rfl (cVb hc338)) rfl ?_
 refine c_seq (c_region (st (v:=.pointer (some ⟨g36,0,none⟩)) (x_move (.tmp rfl hρ91)) ?_))
 refine st_c cb36 .func (evs1 (.tmp rfl rfl)) (uint_q hp1 i3.2.2 hs94) ?_
 rintro e w343 ⟨q339,A340,n341,c342,hq344,hb345,hn346,rfl,hp347,hs348⟩
 refine ⟨_,rfl,?_⟩
 refine st (v:=.pointer (some ⟨g36,0,none⟩)) (x_move (.tmp rfl hρ91)) ?_
 refine st_c cb36 .func (evs1 (.tmp rfl rfl)) (uint_q hp347 q339.2.2 hs348) ?_
 rintro e w353 ⟨q349,A350,n351,c352,hq354,hb355,hn356,rfl,hp357,hs358⟩
 refine ⟨_,rfl,?_⟩
 refine st (v:=.pointer (some ⟨g36,0,none⟩)) (x_move (.tmp rfl hρ91)) ?_
 refine st_c cb36 .func (evs1 (.tmp rfl rfl)) (uint_q hp357 q349.2.2 hs358) ?_
 rintro e w363 ⟨q359,A360,n361,c362,hq364,hb365,hn366,rfl,hp367,hs368⟩
 refine ⟨_,rfl,?_⟩
 refine st (v:=.pointer (some ⟨g60,0 + 10,none⟩)) (fa30_7 (.tmp rfl hρ92)) ?_
 have hs369:=hs368.p1
 refine st_m0 (sto22 (cs':=[.int .u8 ((q39.1:Nat):Int),.int .i64 ((q50.1:Nat):Int),.int .u64 ((i3.1.1.N:Nat):Int),.int .i64 i3.1.1.P,.int .u16 0,.int .u64 0,.int .i64 0,.int .u64 0,.int .i64 0,.slice none 0 0,.int .u64 ((q339.1:Nat):Int),.slice none 0 0,.slice none 0 0,.int .u64 0,.int .u64 0]) (i:=0 + 10) hs369 (v:=.int .u64 ((q339.1:Nat):Int)) (.tmp rfl rfl) (.tmp rfl rfl) rfl (Nat.le_of_ble_eq_true rfl) one1 rfl) ?_
 rintro w370 hs372
 refine st (v:=.pointer (some ⟨g60,0 + 13,none⟩)) (fa30_10 (.tmp rfl hρ92)) ?_
 refine st_m0 (sto22 (cs':=[.int .u8 ((q39.1:Nat):Int),.int .i64 ((q50.1:Nat):Int),.int .u64 ((i3.1.1.N:Nat):Int),.int .i64 i3.1.1.P,.int .u16 0,.int .u64 0,.int .i64 0,.int .u64 0,.int .i64 0,.slice none 0 0,.int .u64 ((q339.1:Nat):Int),.slice none 0 0,.slice none 0 0,.int .u64 ((q349.1:Nat):Int),.int .u64 0]) (i:=0 + 13) hs372 (v:=.int .u64 ((q349.1:Nat):Int)) (.tmp rfl rfl) (.tmp rfl rfl) rfl (Nat.le_of_ble_eq_true rfl) one1 rfl) ?_
 rintro w373 hs375
 refine st (v:=.pointer (some ⟨g60,0 + 14,none⟩)) (fa30_11 (.tmp rfl hρ92)) ?_
 refine st_m0 (sto22 (cs':=[.int .u8 ((q39.1:Nat):Int),.int .i64 ((q50.1:Nat):Int),.int .u64 ((i3.1.1.N:Nat):Int),.int .i64 i3.1.1.P,.int .u16 0,.int .u64 0,.int .i64 0,.int .u64 0,.int .i64 0,.slice none 0 0,.int .u64 ((q339.1:Nat):Int),.slice none 0 0,.slice none 0 0,.int .u64 ((q349.1:Nat):Int),.int .u64 ((q359.1:Nat):Int)]) (i:=0 + 14) hs375 (v:=.int .u64 ((q359.1:Nat):Int)) (.tmp rfl rfl) (.tmp rfl rfl) rfl (Nat.le_of_ble_eq_true rfl) one1 rfl) ?_
 rintro w376 hs378
 refine c_nil (n_then (c_region (st (v:=.pointer (some ⟨g36,0,none⟩)) (x_move (.tmp rfl hρ91)) ?_)))
 have hs379:=hs378.p1
 refine st_c cb39 .func (evs1 (.tmp rfl rfl)) (itemsdecP_spec hs379 hp367 (by omega) ) ?_
 rintro e w381 ⟨H383,A385,n386,c387,q380,A389,n390,c391,hle384,rfl,sp388,hq392,hp393,hn394,hs382⟩
 have:=sp388.len; have:=sp388.le; have:n386 * 32 ≤ 140737488351232:=sp388.bnd
 refine ⟨_,rfl,?_⟩
 refine st (v:=.pointer (some ⟨g60,0 + 12,none⟩)) (fa30_9 (.tmp rfl hρ92)) ?_
 have hs395:=hs382.p1
 refine st_m0 (sto28 (cs':=[.int .u8 ((q39.1:Nat):Int),.int .i64 ((q50.1:Nat):Int),.int .u64 ((i3.1.1.N:Nat):Int),.int .i64 i3.1.1.P,.int .u16 0,.int .u64 0,.int .i64 0,.int .u64 0,.int .i64 0,.slice none 0 0,.int .u64 ((q339.1:Nat):Int),.slice none 0 0,.slice A385 n386 c387,.int .u64 ((q349.1:Nat):Int),.int .u64 ((q359.1:Nat):Int)]) (i:=0 + 12) hs395 (v:=.slice A385 n386 c387) (.tmp rfl rfl) (.tmp rfl rfl) rfl (Nat.le_of_ble_eq_true rfl) one1 rfl) ?_
 rintro w396 hs398
 refine c_nil (n_block ?_)
 have hd0:decA b = decP (openL b).1:=decA_read (by omega) (Classical.not_not.1 hp23)
 have hd1:=dec_head hd0 hq44 hq55
 have hd2:=dec_i' hd1 (by omega) h2i
 have hd:=dec_7 hd2 (by omega) hq344 hq354 hq364 hq392
 exact n_then ⟨_,rfl,H383,i3.1.2,true,(GFrame.mk q39.1 ((q50.1:Nat):Int) i3.1.1 0 (GViewID.mk 0 0) (GViewID.mk 0 0) [] q339.1 [] q380.1 q349.1 q359.1),[.int .u8 ((q39.1:Nat):Int),.int .i64 ((q50.1:Nat):Int),.int .u64 ((i3.1.1.N:Nat):Int),.int .i64 i3.1.1.P,.int .u16 0,.int .u64 0,.int .i64 0,.int .u64 0,.int .i64 0,.slice none 0 0,.int .u64 ((q339.1:Nat):Int),.slice none 0 0,.slice A385 n386 c387,.int .u64 ((q349.1:Nat):Int),.int .u64 ((q359.1:Nat):Int)],A389,n390,c391,q380.2.1,q380.2.2,hρ90,hρ91,hρ92,hρ93,rfl,hle384,hp393,⟨none,0,0,none,0,0,A385,n386,c387,rfl,hb49,(show IB ((q50.1:Nat):Int) from ⟨by omega,by omega⟩),hN,hP,(show 0 < 65536 from by omega),(show 0 < 18446744073709551616 from by omega),(show IB 0 from ⟨by omega,by omega⟩),(show 0 < 18446744073709551616 from by omega),(show IB 0 from ⟨by omega,by omega⟩),(Sl.nil _ _ none),hb345,(Sl.nil _ _ none),sp388,hb355,hb365⟩,hd,(((hs398.p2).p1).p2)⟩
 have hp338:¬ ((((q39.1:Nat):Int):Int) = 7):=of_decide_eq_false hc338
 refine c_cond_f (t:=false) (.tmp rfl (cVb hc338)) rfl ?_
 refine c_seq (c_region (st (v:=.agg #[.int .u8 0,.int .i64 0,.int .u64 0,.int .i64 0,.int .u16 0,.int .u64 0,.int .i64 0,.int .u64 0,.int .i64 0,.slice none 0 0,.int .u64 0,.slice none 0 0,.slice none 0 0,.int .u64 0,.int .u64 0]) (bl30 (ps:=[]) Evp.nil rfl) ?_))
 have hs399:=hs94.p2
 refine st_m0 (sto30 (cs':=[.int .u8 0,.int .i64 0,.int .u64 0,.int .i64 0,.int .u16 0,.int .u64 0,.int .i64 0,.int .u64 0,.int .i64 0,.slice none 0 0,.int .u64 0,.slice none 0 0,.slice none 0 0,.int .u64 0,.int .u64 0]) (i:=0) hs399 (v:=.agg #[.int .u8 0,.int .i64 0,.int .u64 0,.int .i64 0,.int .u16 0,.int .u64 0,.int .i64 0,.int .u64 0,.int .i64 0,.slice none 0 0,.int .u64 0,.slice none 0 0,.slice none 0 0,.int .u64 0,.int .u64 0]) (.tmp rfl hρ90) (.tmp rfl rfl) rfl (Nat.le_of_ble_eq_true rfl) (oneA rfl) rfl) ?_
 rintro w400 hs402
 refine st (v:=.int .i64 3) (x_assign .const) ?_
 refine c_nil (n_then (c_ret (r_block (r_then (leave_ret (res_two (v:=.agg #[.int .u8 0,.int .i64 0,.int .u64 0,.int .i64 0,.int .u16 0,.int .u64 0,.int .i64 0,.int .u64 0,.int .i64 0,.slice none 0 0,.int .u64 0,.slice none 0 0,.slice none 0 0,.int .u64 0,.int .u64 0]) (u:=.int .i64 3) rfl (.mkCell rfl hρ90 (lv30 (cs:=[.int .u8 0,.int .i64 0,.int .u64 0,.int .i64 0,.int .u16 0,.int .u64 0,.int .i64 0,.int .u64 0,.int .i64 0,.slice none 0 0,.int .u64 0,.slice none 0 0,.slice none 0 0,.int .u64 0,.int .u64 0]) (hs402.at_ 0 rfl 0 rfl) rfl)) (.mk rfl rfl)) ?_)))))
 have hd0:decA b = decP (openL b).1:=decA_read (by omega) (Classical.not_not.1 hp23)
 have hd1:=dec_head hd0 hq44 hq55
 have hd2:=dec_i' hd1 (by omega) h2i
 have hans403:decA b = (zF,3):=dec_0 hd2 (by omega) (by omega) (by omega) (by omega) (by omega) (by omega)
 rw [hans403]
 exact ⟨H68,[.int .u8 0,.int .i64 0,.int .u64 0,.int .i64 0,.int .u16 0,.int .u64 0,.int .i64 0,.int .u64 0,.int .i64 0,.slice none 0 0,.int .u64 0,.slice none 0 0,.slice none 0 0,.int .u64 0,.int .u64 0],(hle32.trans hg69),rfl,⟨none,0,0,none,0,0,none,0,0,rfl,(show 0 < 256 from by omega),(show IB 0 from ⟨by omega,by omega⟩),(show 0 < 18446744073709551616 from by omega),(show IB 0 from ⟨by omega,by omega⟩),(show 0 < 65536 from by omega),(show 0 < 18446744073709551616 from by omega),(show IB 0 from ⟨by omega,by omega⟩),(show 0 < 18446744073709551616 from by omega),(show IB 0 from ⟨by omega,by omega⟩),(Sl.nil _ _ none),(show 0 < 18446744073709551616 from by omega),(Sl.nil _ _ none),(Sl.nil _ _ none),(show 0 < 18446744073709551616 from by omega),(show 0 < 18446744073709551616 from by omega)⟩,hs402.drop.drop.drop⟩
 rintro ρ w ⟨H95,ok3,fine3,g3,cs3,A3,n3,c3,cur3,bad3,hρ404,hρ405,hρ406,hρ407,hρ408,hg96,hp3,hr3,hd3,hs409⟩
 obtain ⟨A423,n424,c425,A428,n429,c430,A432,n433,c434,rfl,b410,⟨b411,b412⟩,b413,⟨b414,b415⟩,b416,b417,⟨b418,b419⟩,b420,⟨b421,b422⟩,hl426,b427,hl431,hl435,b436,b437⟩:=hr3
 have:=hl426.len; have:n424 * 48 ≤ 140737488351232:=hl426.bnd; have:=hl426.le
 have:=hl431.len; have:n429 * 24 ≤ 140737488351232:=hl431.bnd; have:=hl431.le
 have:=hl435.len; have:n433 * 32 ≤ 140737488351232:=hl435.bnd; have:=hl435.le
 refine c_seq (c_seq (c_region (st (v:=.bool ok3) (x_move (.tmp rfl hρ407)) ?_)))
 refine st (v:=.bool (!ok3)) (x_not (.tmp rfl rfl)) ?_
 refine st (v:=.bool (!ok3)) (x_move (.tmp rfl rfl)) ?_
 refine jw 3 (fun ρ w => ρ 137 = .bool ((!ok3) || (!fine3))∧ρ 2 = .pointer (some ⟨g1,0,none⟩)∧ρ 6 = .pointer (some ⟨g36,0,none⟩)∧ρ 7 = .pointer (some ⟨g60,0,none⟩)∧St H95 w (obj g36 98 [.slice A3 n3 c3,.bool bad3]::obj g60 30 [.int .u8 ((g3.Kind:Nat):Int),.int .i64 g3.From,.int .u64 ((g3.ID.N:Nat):Int),.int .i64 g3.ID.P,.int .u16 ((g3.Set:Nat):Int),.int .u64 ((g3.Cur.N:Nat):Int),.int .i64 g3.Cur.P,.int .u64 ((g3.Prom.N:Nat):Int),.int .i64 g3.Prom.P,.slice A423 n424 c425,.int .u64 ((g3.Base:Nat):Int),.slice A428 n429 c430,.slice A432 n433 c434,.int .u64 ((g3.Ack:Nat):Int),.int .u64 ((g3.Safe:Nat):Int)]::obj g1 30 [.int .u8 0,.int .i64 0,.int .u64 0,.int .i64 0,.int .u16 0,.int .u64 0,.int .i64 0,.int .u64 0,.int .i64 0,.slice none 0 0,.int .u64 0,.slice none 0 0,.slice none 0 0,.int .u64 0,.int .u64 0]::(row 5 1 (.slice A_b b.length c_b) b.length (b.map encB)::L))) ?_ ?_
 rcases Bool.eq_false_or_eq_true ok3 with hc438 | hc438
 refine g_yes (yl (dj:=134) (b:=false) rfl rfl (cVb (by rw [hc438]; rfl))) ?_
 refine st (v:=.bool fine3) (x_move (.tmp rfl hρ408)) ?_
 refine g_yes (yl (dj:=134) (b:=false) rfl rfl (cVb (by rw [hc438]; rfl))) ?_
 refine st (v:=.bool (!fine3)) (x_not (.tmp rfl rfl)) ?_
 refine st (v:=.bool (!fine3)) (x_pick_f (.tmp rfl (cVb (by rw [hc438]; rfl))) (.tmp rfl rfl)) ?_
 exact jw_end ⟨(cVb (jor_f (by rw [hc438]; rfl))),hρ404,hρ405,hρ406,hs409⟩
 refine g_no (yl (dj:=134) (b:=true) rfl rfl (cVb (by rw [hc438]; rfl))) rfl ?_
 refine g_no (yl (dj:=134) (b:=true) rfl rfl (cVb (by rw [hc438]; rfl))) rfl ?_
 refine st (v:=.bool true) (x_pick_t (.tmp rfl (cVb (by rw [hc438]; rfl))) .const) ?_
 exact jw_end ⟨(cVb (jor_t (by rw [hc438]; rfl))),hρ404,hρ405,hρ406,hs409⟩
 rintro ρ w ⟨hρ439,hρ440,hρ441,hρ442,hs443⟩
 refine st (v:=.bool ((!ok3) || (!fine3))) (x_move (.tmp rfl hρ439)) ?_
 rcases Bool.eq_false_or_eq_true ((!ok3) || (!fine3)) with hc444 | hc444
 have hp444:(¬ (ok3 = true)) ∨ (¬ (fine3 = true)):=((J_or (J_not Iff.rfl) (J_not Iff.rfl))).1 hc444
 refine g_no (yk 138 true rfl rfl hc444) rfl ?_
 refine g_no (yk 138 true rfl rfl hc444) rfl ?_
 refine st (v:=.bool true) (x_pick_t (.tmp rfl (cVb hc444)) .const) ?_
 refine st (v:=.bool true) (x_move (.tmp rfl rfl)) ?_
 refine g_no (yl (dj:=142) (b:=true) rfl rfl rfl) rfl ?_
 refine g_no (yl (dj:=142) (b:=true) rfl rfl rfl) rfl ?_
 refine g_no (yl (dj:=142) (b:=true) rfl rfl rfl) rfl ?_
 refine st (v:=.bool true) (x_pick_t (.tmp rfl rfl) .const) ?_
 refine st (v:=.bool true) (x_move (.tmp rfl rfl)) ?_
 refine g_no (yl (dj:=147) (b:=true) rfl rfl rfl) rfl ?_
 refine g_no (yl (dj:=147) (b:=true) rfl rfl rfl) rfl ?_
 refine g_no (yl (dj:=147) (b:=true) rfl rfl rfl) rfl ?_
 refine g_no (yl (dj:=147) (b:=true) rfl rfl rfl) rfl ?_
 refine g_no0 (yn (dj:=151) rfl rfl) ?_
 refine g_no0 (yn (dj:=151) rfl rfl) ?_
 refine g_no0 (yn (dj:=151) rfl rfl) ?_
 refine g_no0 (yn (dj:=151) rfl rfl) ?_
 refine g_no (yl (dj:=147) (b:=true) rfl rfl rfl) rfl ?_
 refine st (v:=.bool true) (x_pick_t (.tmp rfl rfl) .const) ?_
 refine st (v:=.bool true) (x_move (.tmp rfl rfl)) ?_
 refine g_no (yl (dj:=158) (b:=true) rfl rfl rfl) rfl ?_
 refine g_no (yl (dj:=158) (b:=true) rfl rfl rfl) rfl ?_
 refine g_no (yl (dj:=158) (b:=true) rfl rfl rfl) rfl ?_
 refine g_no (yl (dj:=158) (b:=true) rfl rfl rfl) rfl ?_
 refine g_no0 (yn (dj:=162) rfl rfl) ?_
 refine g_no0 (yn (dj:=162) rfl rfl) ?_
 refine g_no0 (yn (dj:=162) rfl rfl) ?_
 refine g_no0 (yn (dj:=162) rfl rfl) ?_
 refine g_no (yl (dj:=158) (b:=true) rfl rfl rfl) rfl ?_
 refine st (v:=.bool true) (x_pick_t (.tmp rfl rfl) .const) ?_
 refine c_nil (n_then (c_cond_t (t:=true) (.tmp rfl rfl) rfl ?_))
 refine c_seq (c_region (st (v:=.agg #[.int .u8 0,.int .i64 0,.int .u64 0,.int .i64 0,.int .u16 0,.int .u64 0,.int .i64 0,.int .u64 0,.int .i64 0,.slice none 0 0,.int .u64 0,.slice none 0 0,.slice none 0 0,.int .u64 0,.int .u64 0]) (bl30 (ps:=[]) Evp.nil rfl) ?_))
 have hs445:=hs443.p2
 refine st_m0 (sto30 (cs':=[.int .u8 0,.int .i64 0,.int .u64 0,.int .i64 0,.int .u16 0,.int .u64 0,.int .i64 0,.int .u64 0,.int .i64 0,.slice none 0 0,.int .u64 0,.slice none 0 0,.slice none 0 0,.int .u64 0,.int .u64 0]) (i:=0) hs445 (v:=.agg #[.int .u8 0,.int .i64 0,.int .u64 0,.int .i64 0,.int .u16 0,.int .u64 0,.int .i64 0,.int .u64 0,.int .i64 0,.slice none 0 0,.int .u64 0,.slice none 0 0,.slice none 0 0,.int .u64 0,.int .u64 0]) (.tmp rfl hρ440) (.tmp rfl rfl) rfl (Nat.le_of_ble_eq_true rfl) (oneA rfl) rfl) ?_
 rintro w446 hs448
 refine st (v:=.int .i64 3) (x_assign .const) ?_
 refine c_nil (n_then (c_ret (r_then (leave_ret (res_two (v:=.agg #[.int .u8 0,.int .i64 0,.int .u64 0,.int .i64 0,.int .u16 0,.int .u64 0,.int .i64 0,.int .u64 0,.int .i64 0,.slice none 0 0,.int .u64 0,.slice none 0 0,.slice none 0 0,.int .u64 0,.int .u64 0]) (u:=.int .i64 3) rfl (.mkCell rfl hρ440 (lv30 (cs:=[.int .u8 0,.int .i64 0,.int .u64 0,.int .i64 0,.int .u16 0,.int .u64 0,.int .i64 0,.int .u64 0,.int .i64 0,.slice none 0 0,.int .u64 0,.slice none 0 0,.slice none 0 0,.int .u64 0,.int .u64 0]) (hs448.at_ 0 rfl 0 rfl) rfl)) (.mk rfl rfl)) ?_))))
 have hans449:decA b = (zF,3):=hd3.trans (tail_ok hp444)
 rw [hans449]
 exact ⟨H95,[.int .u8 0,.int .i64 0,.int .u64 0,.int .i64 0,.int .u16 0,.int .u64 0,.int .i64 0,.int .u64 0,.int .i64 0,.slice none 0 0,.int .u64 0,.slice none 0 0,.slice none 0 0,.int .u64 0,.int .u64 0],((hle32.trans hg69).trans hg96),rfl,⟨none,0,0,none,0,0,none,0,0,rfl,(show 0 < 256 from by omega),(show IB 0 from ⟨by omega,by omega⟩),(show 0 < 18446744073709551616 from by omega),(show IB 0 from ⟨by omega,by omega⟩),(show 0 < 65536 from by omega),(show 0 < 18446744073709551616 from by omega),(show IB 0 from ⟨by omega,by omega⟩),(show 0 < 18446744073709551616 from by omega),(show IB 0 from ⟨by omega,by omega⟩),(Sl.nil _ _ none),(show 0 < 18446744073709551616 from by omega),(Sl.nil _ _ none),(Sl.nil _ _ none),(show 0 < 18446744073709551616 from by omega),(show 0 < 18446744073709551616 from by omega)⟩,hs448.drop.drop.drop⟩
 have hp444:¬ ((¬ (ok3 = true)) ∨ (¬ (fine3 = true))):=J_no (J_or (J_not Iff.rfl) (J_not Iff.rfl)) hc444
 refine g_yes (yk 138 false rfl rfl hc444) ?_
 refine st (v:=.pointer (some ⟨g36,0,none⟩)) (x_move (.tmp rfl hρ441)) ?_
 refine g_yes (yk 138 false rfl rfl hc444) ?_
 refine st_c cb37 .func (evs1 (.tmp rfl rfl)) (bad_own hs443) ?_
 rintro e w450 ⟨rfl,hs451⟩
 refine ⟨_,rfl,?_⟩
 refine st (v:=.bool bad3) (x_pick_f (.tmp rfl (cVb hc444)) (.tmp rfl rfl)) ?_
 refine st (v:=.bool bad3) (x_move (.tmp rfl rfl)) ?_
 rcases Bool.eq_false_or_eq_true bad3 with hc452 | hc452
 refine g_no (yk 142 true rfl rfl hc452) rfl ?_
 refine g_no (yk 142 true rfl rfl hc452) rfl ?_
 refine g_no (yk 142 true rfl rfl hc452) rfl ?_
 refine st (v:=.bool true) (x_pick_t (.tmp rfl (cVb hc452)) .const) ?_
 refine st (v:=.bool true) (x_move (.tmp rfl rfl)) ?_
 refine g_no (yl (dj:=147) (b:=true) rfl rfl rfl) rfl ?_
 refine g_no (yl (dj:=147) (b:=true) rfl rfl rfl) rfl ?_
 refine g_no (yl (dj:=147) (b:=true) rfl rfl rfl) rfl ?_
 refine g_no (yl (dj:=147) (b:=true) rfl rfl rfl) rfl ?_
 refine g_no0 (yn (dj:=151) rfl rfl) ?_
 refine g_no0 (yn (dj:=151) rfl rfl) ?_
 refine g_no0 (yn (dj:=151) rfl rfl) ?_
 refine g_no0 (yn (dj:=151) rfl rfl) ?_
 refine g_no (yl (dj:=147) (b:=true) rfl rfl rfl) rfl ?_
 refine st (v:=.bool true) (x_pick_t (.tmp rfl rfl) .const) ?_
 refine st (v:=.bool true) (x_move (.tmp rfl rfl)) ?_
 refine g_no (yl (dj:=158) (b:=true) rfl rfl rfl) rfl ?_
 refine g_no (yl (dj:=158) (b:=true) rfl rfl rfl) rfl ?_
 refine g_no (yl (dj:=158) (b:=true) rfl rfl rfl) rfl ?_
 refine g_no (yl (dj:=158) (b:=true) rfl rfl rfl) rfl ?_
 refine g_no0 (yn (dj:=162) rfl rfl) ?_
 refine g_no0 (yn (dj:=162) rfl rfl) ?_
 refine g_no0 (yn (dj:=162) rfl rfl) ?_
 refine g_no0 (yn (dj:=162) rfl rfl) ?_
 refine g_no (yl (dj:=158) (b:=true) rfl rfl rfl) rfl ?_
 refine st (v:=.bool true) (x_pick_t (.tmp rfl rfl) .const) ?_
 refine c_nil (n_then (c_cond_t (t:=true) (.tmp rfl rfl) rfl ?_))
 refine c_seq (c_region (st (v:=.agg #[.int .u8 0,.int .i64 0,.int .u64 0,.int .i64 0,.int .u16 0,.int .u64 0,.int .i64 0,.int .u64 0,.int .i64 0,.slice none 0 0,.int .u64 0,.slice none 0 0,.slice none 0 0,.int .u64 0,.int .u64 0]) (bl30 (ps:=[]) Evp.nil rfl) ?_))
 have hs453:=hs451.p2
 refine st_m0 (sto30 (cs':=[.int .u8 0,.int .i64 0,.int .u64 0,.int .i64 0,.int .u16 0,.int .u64 0,.int .i64 0,.int .u64 0,.int .i64 0,.slice none 0 0,.int .u64 0,.slice none 0 0,.slice none 0 0,.int .u64 0,.int .u64 0]) (i:=0) hs453 (v:=.agg #[.int .u8 0,.int .i64 0,.int .u64 0,.int .i64 0,.int .u16 0,.int .u64 0,.int .i64 0,.int .u64 0,.int .i64 0,.slice none 0 0,.int .u64 0,.slice none 0 0,.slice none 0 0,.int .u64 0,.int .u64 0]) (.tmp rfl hρ440) (.tmp rfl rfl) rfl (Nat.le_of_ble_eq_true rfl) (oneA rfl) rfl) ?_
 rintro w454 hs456
 refine st (v:=.int .i64 3) (x_assign .const) ?_
 refine c_nil (n_then (c_ret (r_then (leave_ret (res_two (v:=.agg #[.int .u8 0,.int .i64 0,.int .u64 0,.int .i64 0,.int .u16 0,.int .u64 0,.int .i64 0,.int .u64 0,.int .i64 0,.slice none 0 0,.int .u64 0,.slice none 0 0,.slice none 0 0,.int .u64 0,.int .u64 0]) (u:=.int .i64 3) rfl (.mkCell rfl hρ440 (lv30 (cs:=[.int .u8 0,.int .i64 0,.int .u64 0,.int .i64 0,.int .u16 0,.int .u64 0,.int .i64 0,.int .u64 0,.int .i64 0,.slice none 0 0,.int .u64 0,.slice none 0 0,.slice none 0 0,.int .u64 0,.int .u64 0]) (hs456.at_ 0 rfl 0 rfl) rfl)) (.mk rfl rfl)) ?_))))
 have hans457:decA b = (zF,3):=hd3.trans (fin_bad hc452)
 rw [hans457]
 exact ⟨H95,[.int .u8 0,.int .i64 0,.int .u64 0,.int .i64 0,.int .u16 0,.int .u64 0,.int .i64 0,.int .u64 0,.int .i64 0,.slice none 0 0,.int .u64 0,.slice none 0 0,.slice none 0 0,.int .u64 0,.int .u64 0],((hle32.trans hg69).trans hg96),rfl,⟨none,0,0,none,0,0,none,0,0,rfl,(show 0 < 256 from by omega),(show IB 0 from ⟨by omega,by omega⟩),(show 0 < 18446744073709551616 from by omega),(show IB 0 from ⟨by omega,by omega⟩),(show 0 < 65536 from by omega),(show 0 < 18446744073709551616 from by omega),(show IB 0 from ⟨by omega,by omega⟩),(show 0 < 18446744073709551616 from by omega),(show IB 0 from ⟨by omega,by omega⟩),(Sl.nil _ _ none),(show 0 < 18446744073709551616 from by omega),(Sl.nil _ _ none),(Sl.nil _ _ none),(show 0 < 18446744073709551616 from by omega),(show 0 < 18446744073709551616 from by omega)⟩,hs456.drop.drop.drop⟩
 refine g_yes (yk 142 false rfl rfl hc452) ?_
 refine st (v:=.pointer (some ⟨g36,0,none⟩)) (x_move (.tmp rfl hρ441)) ?_
 refine g_yes (yk 142 false rfl rfl hc452) ?_
 refine st_c cb40 .func (evs1 (.tmp rfl rfl)) (left_own (b:=bad3) hs451) ?_
 rintro e w458 ⟨rfl,hs459⟩
 refine ⟨_,rfl,?_⟩
 refine g_yes (yk 142 false rfl rfl hc452) ?_
 refine st (v:=.bool (decide ((0:Int) < (if bad3 = true then 0 else ((n3:Nat):Int))))) (x_gtr (k:=.i64) (a:=(if bad3 = true then 0 else ((n3:Nat):Int))) (b:=0) (.tmp rfl rfl) .const) ?_
 refine st (v:=.bool (decide ((0:Int) < (if bad3 = true then 0 else ((n3:Nat):Int))))) (x_pick_f (.tmp rfl (cVb hc452)) (.tmp rfl rfl)) ?_
 refine st (v:=.bool (decide ((0:Int) < (if bad3 = true then 0 else ((n3:Nat):Int))))) (x_move (.tmp rfl rfl)) ?_
 refine jw 10 (fun ρ w => ρ 157 = .bool ((decide ((0:Int) < (if bad3 = true then 0 else ((n3:Nat):Int)))) || ((decide ((((g3.Kind:Nat):Int):Int) = 3)) && (decide ((((n424:Nat):Int):Int) ≠ 1))))∧ρ 2 = .pointer (some ⟨g1,0,none⟩)∧ρ 7 = .pointer (some ⟨g60,0,none⟩)∧St H95 w (obj g36 98 [.slice A3 n3 c3,.bool bad3]::obj g60 30 [.int .u8 ((g3.Kind:Nat):Int),.int .i64 g3.From,.int .u64 ((g3.ID.N:Nat):Int),.int .i64 g3.ID.P,.int .u16 ((g3.Set:Nat):Int),.int .u64 ((g3.Cur.N:Nat):Int),.int .i64 g3.Cur.P,.int .u64 ((g3.Prom.N:Nat):Int),.int .i64 g3.Prom.P,.slice A423 n424 c425,.int .u64 ((g3.Base:Nat):Int),.slice A428 n429 c430,.slice A432 n433 c434,.int .u64 ((g3.Ack:Nat):Int),.int .u64 ((g3.Safe:Nat):Int)]::obj g1 30 [.int .u8 0,.int .i64 0,.int .u64 0,.int .i64 0,.int .u16 0,.int .u64 0,.int .i64 0,.int .u64 0,.int .i64 0,.slice none 0 0,.int .u64 0,.slice none 0 0,.slice none 0 0,.int .u64 0,.int .u64 0]::(row 5 1 (.slice A_b b.length c_b) b.length (b.map encB)::L))) ?_ ?_
 rcases Bool.eq_false_or_eq_true (decide ((0:Int) < (if bad3 = true then 0 else ((n3:Nat):Int)))) with hc460 | hc460
 have hp460:(0:Int) < (if bad3 = true then 0 else ((n3:Nat):Int)):=of_decide_eq_true hc460
 refine g_no (yk 147 true rfl rfl hc460) rfl ?_
 refine g_no (yk 147 true rfl rfl hc460) rfl ?_
 refine g_no (yk 147 true rfl rfl hc460) rfl ?_
 refine g_no (yk 147 true rfl rfl hc460) rfl ?_
 refine g_no0 (yn (dj:=151) rfl rfl) ?_
 refine g_no0 (yn (dj:=151) rfl rfl) ?_
 refine g_no0 (yn (dj:=151) rfl rfl) ?_
 refine g_no0 (yn (dj:=151) rfl rfl) ?_
 refine g_no (yk 147 true rfl rfl hc460) rfl ?_
 refine st (v:=.bool true) (x_pick_t (.tmp rfl (cVb hc460)) .const) ?_
 exact jw_end ⟨(cVb (jor_t hc460)),hρ440,hρ442,hs459⟩
 have hp460:¬ ((0:Int) < (if bad3 = true then 0 else ((n3:Nat):Int))):=of_decide_eq_false hc460
 refine g_yes (yk 147 false rfl rfl hc460) ?_
 refine st (v:=.pointer (some ⟨g60,0 + 0,none⟩)) (fa30_0 (.tmp rfl hρ442)) ?_
 refine g_yes (yk 147 false rfl rfl hc460) ?_
 refine st (v:=.int .u8 ((g3.Kind:Nat):Int)) (ld5 (.tmp rfl rfl) (hs459.cell 1 rfl (0 + 0) rfl)) ?_
 refine g_yes (yk 147 false rfl rfl hc460) ?_
 refine st (v:=.bool (decide ((((g3.Kind:Nat):Int):Int) = 3))) (x_eql (k:=.u8) (a:=((g3.Kind:Nat):Int)) (b:=3) (.tmp rfl rfl) .const) ?_
 refine g_yes (yk 147 false rfl rfl hc460) ?_
 refine st (v:=.bool (decide ((((g3.Kind:Nat):Int):Int) = 3))) (x_move (.tmp rfl rfl)) ?_
 refine jw 5 (fun ρ w => ρ 156 = .bool ((decide ((((g3.Kind:Nat):Int):Int) = 3)) && (decide ((((n424:Nat):Int):Int) ≠ 1)))∧ρ 2 = .pointer (some ⟨g1,0,none⟩)∧ρ 7 = .pointer (some ⟨g60,0,none⟩)∧ρ 147 = .bool false∧St H95 w (obj g36 98 [.slice A3 n3 c3,.bool bad3]::obj g60 30 [.int .u8 ((g3.Kind:Nat):Int),.int .i64 g3.From,.int .u64 ((g3.ID.N:Nat):Int),.int .i64 g3.ID.P,.int .u16 ((g3.Set:Nat):Int),.int .u64 ((g3.Cur.N:Nat):Int),.int .i64 g3.Cur.P,.int .u64 ((g3.Prom.N:Nat):Int),.int .i64 g3.Prom.P,.slice A423 n424 c425,.int .u64 ((g3.Base:Nat):Int),.slice A428 n429 c430,.slice A432 n433 c434,.int .u64 ((g3.Ack:Nat):Int),.int .u64 ((g3.Safe:Nat):Int)]::obj g1 30 [.int .u8 0,.int .i64 0,.int .u64 0,.int .i64 0,.int .u16 0,.int .u64 0,.int .i64 0,.int .u64 0,.int .i64 0,.slice none 0 0,.int .u64 0,.slice none 0 0,.slice none 0 0,.int .u64 0,.int .u64 0]::(row 5 1 (.slice A_b b.length c_b) b.length (b.map encB)::L))) ?_ ?_
 rcases Bool.eq_false_or_eq_true (decide ((((g3.Kind:Nat):Int):Int) = 3)) with hc461 | hc461
 have hp461:(((g3.Kind:Nat):Int):Int) = 3:=of_decide_eq_true hc461
 refine g_yes (yk 151 true rfl rfl hc461) ?_
 refine st (v:=.pointer (some ⟨g60,0 + 9,none⟩)) (fa30_6 (.tmp rfl hρ442)) ?_
 refine g_yes (yk 151 true rfl rfl hc461) ?_
 refine st (v:=.slice A423 n424 c425) (ld26 (.tmp rfl rfl) (hs459.cell 1 rfl (0 + 9) rfl)) ?_
 refine g_yes (yk 151 true rfl rfl hc461) ?_
 refine st (v:=.int .i64 ((n424:Nat):Int)) (x_len (n:=n424) Try.underlying26 (.tmp rfl rfl)) ?_
 refine g_yes (yk 151 true rfl rfl hc461) ?_
 refine st (v:=.bool (decide ((((n424:Nat):Int):Int) ≠ 1))) (x_neq (k:=.i64) (a:=((n424:Nat):Int)) (b:=1) (.tmp rfl rfl) .const) ?_
 refine g_yes (yk 147 false rfl rfl hc460) ?_
 refine st (v:=.bool (decide ((((n424:Nat):Int):Int) ≠ 1))) (x_pick_t (.tmp rfl (cVb hc461)) (.tmp rfl rfl)) ?_
 exact jw_end ⟨(cVb (jand_t hc461)),hρ440,hρ442,(cVb hc460),hs459⟩
 have hp461:¬ ((((g3.Kind:Nat):Int):Int) = 3):=of_decide_eq_false hc461
 refine g_no (yk 151 false rfl rfl hc461) rfl ?_
 refine g_no (yk 151 false rfl rfl hc461) rfl ?_
 refine g_no (yk 151 false rfl rfl hc461) rfl ?_
 refine g_no (yk 151 false rfl rfl hc461) rfl ?_
 refine g_yes (yk 147 false rfl rfl hc460) ?_
 refine st (v:=.bool false) (x_pick_f (.tmp rfl (cVb hc461)) .const) ?_
 exact jw_end ⟨(cVb (jand_f hc461)),hρ440,hρ442,(cVb hc460),hs459⟩
 rintro ρ w ⟨hρ462,hρ463,hρ464,hρ465,hs466⟩
 refine st (v:=.bool ((decide ((((g3.Kind:Nat):Int):Int) = 3)) && (decide ((((n424:Nat):Int):Int) ≠ 1)))) (x_pick_f (.tmp rfl hρ465) (.tmp rfl hρ462)) ?_
 exact jw_end ⟨(cVb (jor_f hc460)),hρ463,hρ464,hs466⟩
 rintro ρ w ⟨hρ467,hρ468,hρ469,hs470⟩
 refine st (v:=.bool ((decide ((0:Int) < (if bad3 = true then 0 else ((n3:Nat):Int)))) || ((decide ((((g3.Kind:Nat):Int):Int) = 3)) && (decide ((((n424:Nat):Int):Int) ≠ 1))))) (x_move (.tmp rfl hρ467)) ?_
 refine jw 10 (fun ρ w => ρ 168 = .bool (((decide ((0:Int) < (if bad3 = true then 0 else ((n3:Nat):Int)))) || ((decide ((((g3.Kind:Nat):Int):Int) = 3)) && (decide ((((n424:Nat):Int):Int) ≠ 1)))) || ((decide ((((g3.Kind:Nat):Int):Int) ≠ 1)) && (decide ((((g3.ID.N:Nat):Int):Int) = 0))))∧ρ 2 = .pointer (some ⟨g1,0,none⟩)∧ρ 7 = .pointer (some ⟨g60,0,none⟩)∧St H95 w (obj g36 98 [.slice A3 n3 c3,.bool bad3]::obj g60 30 [.int .u8 ((g3.Kind:Nat):Int),.int .i64 g3.From,.int .u64 ((g3.ID.N:Nat):Int),.int .i64 g3.ID.P,.int .u16 ((g3.Set:Nat):Int),.int .u64 ((g3.Cur.N:Nat):Int),.int .i64 g3.Cur.P,.int .u64 ((g3.Prom.N:Nat):Int),.int .i64 g3.Prom.P,.slice A423 n424 c425,.int .u64 ((g3.Base:Nat):Int),.slice A428 n429 c430,.slice A432 n433 c434,.int .u64 ((g3.Ack:Nat):Int),.int .u64 ((g3.Safe:Nat):Int)]::obj g1 30 [.int .u8 0,.int .i64 0,.int .u64 0,.int .i64 0,.int .u16 0,.int .u64 0,.int .i64 0,.int .u64 0,.int .i64 0,.slice none 0 0,.int .u64 0,.slice none 0 0,.slice none 0 0,.int .u64 0,.int .u64 0]::(row 5 1 (.slice A_b b.length c_b) b.length (b.map encB)::L))) ?_ ?_
 rcases Bool.eq_false_or_eq_true ((decide ((0:Int) < (if bad3 = true then 0 else ((n3:Nat):Int)))) || ((decide ((((g3.Kind:Nat):Int):Int) = 3)) && (decide ((((n424:Nat):Int):Int) ≠ 1)))) with hc471 | hc471
 have hp471:((0:Int) < (if bad3 = true then 0 else ((n3:Nat):Int))) ∨ (((((g3.Kind:Nat):Int):Int) = 3)∧((((n424:Nat):Int):Int) ≠ 1)):=((J_or decide_eq_true_iff (J_and decide_eq_true_iff decide_eq_true_iff))).1 hc471
 refine g_no (yk 158 true rfl rfl hc471) rfl ?_
 refine g_no (yk 158 true rfl rfl hc471) rfl ?_
 refine g_no (yk 158 true rfl rfl hc471) rfl ?_
 refine g_no (yk 158 true rfl rfl hc471) rfl ?_
 refine g_no0 (yn (dj:=162) rfl rfl) ?_
 refine g_no0 (yn (dj:=162) rfl rfl) ?_
 refine g_no0 (yn (dj:=162) rfl rfl) ?_
 refine g_no0 (yn (dj:=162) rfl rfl) ?_
 refine g_no (yk 158 true rfl rfl hc471) rfl ?_
 refine st (v:=.bool true) (x_pick_t (.tmp rfl (cVb hc471)) .const) ?_
 exact jw_end ⟨(cVb (jor_t hc471)),hρ468,hρ469,hs470⟩
 have hp471:¬ (((0:Int) < (if bad3 = true then 0 else ((n3:Nat):Int))) ∨ (((((g3.Kind:Nat):Int):Int) = 3)∧((((n424:Nat):Int):Int) ≠ 1))):=J_no (J_or decide_eq_true_iff (J_and decide_eq_true_iff decide_eq_true_iff)) hc471
 refine g_yes (yk 158 false rfl rfl hc471) ?_
 refine st (v:=.pointer (some ⟨g60,0 + 0,none⟩)) (fa30_0 (.tmp rfl hρ469)) ?_
 refine g_yes (yk 158 false rfl rfl hc471) ?_
 refine st (v:=.int .u8 ((g3.Kind:Nat):Int)) (ld5 (.tmp rfl rfl) (hs470.cell 1 rfl (0 + 0) rfl)) ?_
 refine g_yes (yk 158 false rfl rfl hc471) ?_
 refine st (v:=.bool (decide ((((g3.Kind:Nat):Int):Int) ≠ 1))) (x_neq (k:=.u8) (a:=((g3.Kind:Nat):Int)) (b:=1) (.tmp rfl rfl) .const) ?_
 refine g_yes (yk 158 false rfl rfl hc471) ?_
 refine st (v:=.bool (decide ((((g3.Kind:Nat):Int):Int) ≠ 1))) (x_move (.tmp rfl rfl)) ?_
 refine jw 5 (fun ρ w => ρ 167 = .bool ((decide ((((g3.Kind:Nat):Int):Int) ≠ 1)) && (decide ((((g3.ID.N:Nat):Int):Int) = 0)))∧ρ 2 = .pointer (some ⟨g1,0,none⟩)∧ρ 7 = .pointer (some ⟨g60,0,none⟩)∧ρ 158 = .bool false∧St H95 w (obj g36 98 [.slice A3 n3 c3,.bool bad3]::obj g60 30 [.int .u8 ((g3.Kind:Nat):Int),.int .i64 g3.From,.int .u64 ((g3.ID.N:Nat):Int),.int .i64 g3.ID.P,.int .u16 ((g3.Set:Nat):Int),.int .u64 ((g3.Cur.N:Nat):Int),.int .i64 g3.Cur.P,.int .u64 ((g3.Prom.N:Nat):Int),.int .i64 g3.Prom.P,.slice A423 n424 c425,.int .u64 ((g3.Base:Nat):Int),.slice A428 n429 c430,.slice A432 n433 c434,.int .u64 ((g3.Ack:Nat):Int),.int .u64 ((g3.Safe:Nat):Int)]::obj g1 30 [.int .u8 0,.int .i64 0,.int .u64 0,.int .i64 0,.int .u16 0,.int .u64 0,.int .i64 0,.int .u64 0,.int .i64 0,.slice none 0 0,.int .u64 0,.slice none 0 0,.slice none 0 0,.int .u64 0,.int .u64 0]::(row 5 1 (.slice A_b b.length c_b) b.length (b.map encB)::L))) ?_ ?_
 rcases Bool.eq_false_or_eq_true (decide ((((g3.Kind:Nat):Int):Int) ≠ 1)) with hc472 | hc472
 have hp472:(((g3.Kind:Nat):Int):Int) ≠ 1:=of_decide_eq_true hc472
 refine g_yes (yk 162 true rfl rfl hc472) ?_
 refine st (v:=.pointer (some ⟨g60,0 + 2,none⟩)) (fa30_2 (.tmp rfl hρ469)) ?_
 refine g_yes (yk 162 true rfl rfl hc472) ?_
 refine st (v:=.pointer (some ⟨g60,0 + 2 + 0,none⟩)) (fa24_0 (.tmp rfl rfl)) ?_
 refine g_yes (yk 162 true rfl rfl hc472) ?_
 refine st (v:=.int .u64 ((g3.ID.N:Nat):Int)) (ld22 (.tmp rfl rfl) (hs470.cell 1 rfl (0 + 2 + 0) rfl)) ?_
 refine g_yes (yk 162 true rfl rfl hc472) ?_
 refine st (v:=.bool (decide ((((g3.ID.N:Nat):Int):Int) = 0))) (x_eql (k:=.u64) (a:=((g3.ID.N:Nat):Int)) (b:=0) (.tmp rfl rfl) .const) ?_
 refine g_yes (yk 158 false rfl rfl hc471) ?_
 refine st (v:=.bool (decide ((((g3.ID.N:Nat):Int):Int) = 0))) (x_pick_t (.tmp rfl (cVb hc472)) (.tmp rfl rfl)) ?_
 exact jw_end ⟨(cVb (jand_t hc472)),hρ468,hρ469,(cVb hc471),hs470⟩
 have hp472:¬ ((((g3.Kind:Nat):Int):Int) ≠ 1):=of_decide_eq_false hc472
 refine g_no (yk 162 false rfl rfl hc472) rfl ?_
 refine g_no (yk 162 false rfl rfl hc472) rfl ?_
 refine g_no (yk 162 false rfl rfl hc472) rfl ?_
 refine g_no (yk 162 false rfl rfl hc472) rfl ?_
 refine g_yes (yk 158 false rfl rfl hc471) ?_
 refine st (v:=.bool false) (x_pick_f (.tmp rfl (cVb hc472)) .const) ?_
 exact jw_end ⟨(cVb (jand_f hc472)),hρ468,hρ469,(cVb hc471),hs470⟩
 rintro ρ w ⟨hρ473,hρ474,hρ475,hρ476,hs477⟩
 refine st (v:=.bool ((decide ((((g3.Kind:Nat):Int):Int) ≠ 1)) && (decide ((((g3.ID.N:Nat):Int):Int) = 0)))) (x_pick_f (.tmp rfl hρ476) (.tmp rfl hρ473)) ?_
 exact jw_end ⟨(cVb (jor_f hc471)),hρ474,hρ475,hs477⟩
 rintro ρ w ⟨hρ478,hρ479,hρ480,hs481⟩
 refine c_nil (n_then ?_)
 rcases Bool.eq_false_or_eq_true (((decide ((0:Int) < (if bad3 = true then 0 else ((n3:Nat):Int)))) || ((decide ((((g3.Kind:Nat):Int):Int) = 3)) && (decide ((((n424:Nat):Int):Int) ≠ 1)))) || ((decide ((((g3.Kind:Nat):Int):Int) ≠ 1)) && (decide ((((g3.ID.N:Nat):Int):Int) = 0)))) with hc482 | hc482
 have hp482:(((0:Int) < (if bad3 = true then 0 else ((n3:Nat):Int))) ∨ (((((g3.Kind:Nat):Int):Int) = 3)∧((((n424:Nat):Int):Int) ≠ 1))) ∨ (((((g3.Kind:Nat):Int):Int) ≠ 1)∧((((g3.ID.N:Nat):Int):Int) = 0)):=((J_or (J_or decide_eq_true_iff (J_and decide_eq_true_iff decide_eq_true_iff)) (J_and decide_eq_true_iff decide_eq_true_iff))).1 hc482
 refine c_cond_t (t:=true) (.tmp rfl (hρ478.trans (cVb hc482))) rfl ?_
 refine c_seq (c_region (st (v:=.agg #[.int .u8 0,.int .i64 0,.int .u64 0,.int .i64 0,.int .u16 0,.int .u64 0,.int .i64 0,.int .u64 0,.int .i64 0,.slice none 0 0,.int .u64 0,.slice none 0 0,.slice none 0 0,.int .u64 0,.int .u64 0]) (bl30 (ps:=[]) Evp.nil rfl) ?_))
 have hs483:=hs481.p2
 refine st_m0 (sto30 (cs':=[.int .u8 0,.int .i64 0,.int .u64 0,.int .i64 0,.int .u16 0,.int .u64 0,.int .i64 0,.int .u64 0,.int .i64 0,.slice none 0 0,.int .u64 0,.slice none 0 0,.slice none 0 0,.int .u64 0,.int .u64 0]) (i:=0) hs483 (v:=.agg #[.int .u8 0,.int .i64 0,.int .u64 0,.int .i64 0,.int .u16 0,.int .u64 0,.int .i64 0,.int .u64 0,.int .i64 0,.slice none 0 0,.int .u64 0,.slice none 0 0,.slice none 0 0,.int .u64 0,.int .u64 0]) (.tmp rfl hρ479) (.tmp rfl rfl) rfl (Nat.le_of_ble_eq_true rfl) (oneA rfl) rfl) ?_
 rintro w484 hs486
 refine st (v:=.int .i64 3) (x_assign .const) ?_
 refine c_nil (n_then (c_ret (r_then (leave_ret (res_two (v:=.agg #[.int .u8 0,.int .i64 0,.int .u64 0,.int .i64 0,.int .u16 0,.int .u64 0,.int .i64 0,.int .u64 0,.int .i64 0,.slice none 0 0,.int .u64 0,.slice none 0 0,.slice none 0 0,.int .u64 0,.int .u64 0]) (u:=.int .i64 3) rfl (.mkCell rfl hρ479 (lv30 (cs:=[.int .u8 0,.int .i64 0,.int .u64 0,.int .i64 0,.int .u16 0,.int .u64 0,.int .i64 0,.int .u64 0,.int .i64 0,.slice none 0 0,.int .u64 0,.slice none 0 0,.slice none 0 0,.int .u64 0,.int .u64 0]) (hs486.at_ 0 rfl 0 rfl) rfl)) (.mk rfl rfl)) ?_))))
 have hans487:decA b = (zF,3):=hd3.trans (tail_no hp3.len hl426.len hp482)
 rw [hans487]
 exact ⟨H95,[.int .u8 0,.int .i64 0,.int .u64 0,.int .i64 0,.int .u16 0,.int .u64 0,.int .i64 0,.int .u64 0,.int .i64 0,.slice none 0 0,.int .u64 0,.slice none 0 0,.slice none 0 0,.int .u64 0,.int .u64 0],((hle32.trans hg69).trans hg96),rfl,⟨none,0,0,none,0,0,none,0,0,rfl,(show 0 < 256 from by omega),(show IB 0 from ⟨by omega,by omega⟩),(show 0 < 18446744073709551616 from by omega),(show IB 0 from ⟨by omega,by omega⟩),(show 0 < 65536 from by omega),(show 0 < 18446744073709551616 from by omega),(show IB 0 from ⟨by omega,by omega⟩),(show 0 < 18446744073709551616 from by omega),(show IB 0 from ⟨by omega,by omega⟩),(Sl.nil _ _ none),(show 0 < 18446744073709551616 from by omega),(Sl.nil _ _ none),(Sl.nil _ _ none),(show 0 < 18446744073709551616 from by omega),(show 0 < 18446744073709551616 from by omega)⟩,hs486.drop.drop.drop⟩
 have hp482:¬ ((((0:Int) < (if bad3 = true then 0 else ((n3:Nat):Int))) ∨ (((((g3.Kind:Nat):Int):Int) = 3)∧((((n424:Nat):Int):Int) ≠ 1))) ∨ (((((g3.Kind:Nat):Int):Int) ≠ 1)∧((((g3.ID.N:Nat):Int):Int) = 0))):=J_no (J_or (J_or decide_eq_true_iff (J_and decide_eq_true_iff decide_eq_true_iff)) (J_and decide_eq_true_iff decide_eq_true_iff)) hc482
 refine c_cond_f (t:=false) (.tmp rfl (hρ478.trans (cVb hc482))) rfl ?_
 refine c_skip (n_then (c_seq (c_region (st (v:=.agg #[.int .u8 ((g3.Kind:Nat):Int),.int .i64 g3.From,.int .u64 ((g3.ID.N:Nat):Int),.int .i64 g3.ID.P,.int .u16 ((g3.Set:Nat):Int),.int .u64 ((g3.Cur.N:Nat):Int),.int .i64 g3.Cur.P,.int .u64 ((g3.Prom.N:Nat):Int),.int .i64 g3.Prom.P,.slice A423 n424 c425,.int .u64 ((g3.Base:Nat):Int),.slice A428 n429 c430,.slice A432 n433 c434,.int .u64 ((g3.Ack:Nat):Int),.int .u64 ((g3.Safe:Nat):Int)]) (ld30 (cs:=[.int .u8 ((g3.Kind:Nat):Int),.int .i64 g3.From,.int .u64 ((g3.ID.N:Nat):Int),.int .i64 g3.ID.P,.int .u16 ((g3.Set:Nat):Int),.int .u64 ((g3.Cur.N:Nat):Int),.int .i64 g3.Cur.P,.int .u64 ((g3.Prom.N:Nat):Int),.int .i64 g3.Prom.P,.slice A423 n424 c425,.int .u64 ((g3.Base:Nat):Int),.slice A428 n429 c430,.slice A432 n433 c434,.int .u64 ((g3.Ack:Nat):Int),.int .u64 ((g3.Safe:Nat):Int)]) (.tmp rfl hρ480) (hs481.at_ 1 rfl (0) rfl) rfl) ?_))))
 have hs488:=hs481.p2
 refine st_m0 (sto30 (cs':=[.int .u8 ((g3.Kind:Nat):Int),.int .i64 g3.From,.int .u64 ((g3.ID.N:Nat):Int),.int .i64 g3.ID.P,.int .u16 ((g3.Set:Nat):Int),.int .u64 ((g3.Cur.N:Nat):Int),.int .i64 g3.Cur.P,.int .u64 ((g3.Prom.N:Nat):Int),.int .i64 g3.Prom.P,.slice A423 n424 c425,.int .u64 ((g3.Base:Nat):Int),.slice A428 n429 c430,.slice A432 n433 c434,.int .u64 ((g3.Ack:Nat):Int),.int .u64 ((g3.Safe:Nat):Int)]) (i:=0) hs488 (v:=.agg #[.int .u8 ((g3.Kind:Nat):Int),.int .i64 g3.From,.int .u64 ((g3.ID.N:Nat):Int),.int .i64 g3.ID.P,.int .u16 ((g3.Set:Nat):Int),.int .u64 ((g3.Cur.N:Nat):Int),.int .i64 g3.Cur.P,.int .u64 ((g3.Prom.N:Nat):Int),.int .i64 g3.Prom.P,.slice A423 n424 c425,.int .u64 ((g3.Base:Nat):Int),.slice A428 n429 c430,.slice A432 n433 c434,.int .u64 ((g3.Ack:Nat):Int),.int .u64 ((g3.Safe:Nat):Int)]) (.tmp rfl hρ479) (.tmp rfl rfl) rfl (Nat.le_of_ble_eq_true rfl) (oneA rfl) rfl) ?_
 rintro w489 hs491
 refine st (v:=.int .i64 0) (x_assign .const) ?_
 refine c_nil (n_then (c_ret (leave_ret (res_two (v:=.agg #[.int .u8 ((g3.Kind:Nat):Int),.int .i64 g3.From,.int .u64 ((g3.ID.N:Nat):Int),.int .i64 g3.ID.P,.int .u16 ((g3.Set:Nat):Int),.int .u64 ((g3.Cur.N:Nat):Int),.int .i64 g3.Cur.P,.int .u64 ((g3.Prom.N:Nat):Int),.int .i64 g3.Prom.P,.slice A423 n424 c425,.int .u64 ((g3.Base:Nat):Int),.slice A428 n429 c430,.slice A432 n433 c434,.int .u64 ((g3.Ack:Nat):Int),.int .u64 ((g3.Safe:Nat):Int)]) (u:=.int .i64 0) rfl (.mkCell rfl hρ479 (lv30 (cs:=[.int .u8 ((g3.Kind:Nat):Int),.int .i64 g3.From,.int .u64 ((g3.ID.N:Nat):Int),.int .i64 g3.ID.P,.int .u16 ((g3.Set:Nat):Int),.int .u64 ((g3.Cur.N:Nat):Int),.int .i64 g3.Cur.P,.int .u64 ((g3.Prom.N:Nat):Int),.int .i64 g3.Prom.P,.slice A423 n424 c425,.int .u64 ((g3.Base:Nat):Int),.slice A428 n429 c430,.slice A432 n433 c434,.int .u64 ((g3.Ack:Nat):Int),.int .u64 ((g3.Safe:Nat):Int)]) (hs491.at_ 0 rfl 0 rfl) rfl)) (.mk rfl rfl)) ?_)))
 have hans492:decA b = (g3,0):=hd3.trans (tail_yes hp444 hc452 hp3.len hl426.len hp482)
 rw [hans492]
 exact ⟨H95,[.int .u8 ((g3.Kind:Nat):Int),.int .i64 g3.From,.int .u64 ((g3.ID.N:Nat):Int),.int .i64 g3.ID.P,.int .u16 ((g3.Set:Nat):Int),.int .u64 ((g3.Cur.N:Nat):Int),.int .i64 g3.Cur.P,.int .u64 ((g3.Prom.N:Nat):Int),.int .i64 g3.Prom.P,.slice A423 n424 c425,.int .u64 ((g3.Base:Nat):Int),.slice A428 n429 c430,.slice A432 n433 c434,.int .u64 ((g3.Ack:Nat):Int),.int .u64 ((g3.Safe:Nat):Int)],((hle32.trans hg69).trans hg96),rfl,⟨A423,n424,c425,A428,n429,c430,A432,n433,c434,rfl,b410,⟨b411,b412⟩,b413,⟨b414,b415⟩,b416,b417,⟨b418,b419⟩,b420,⟨b421,b422⟩,hl426,b427,hl431,hl435,b436,b437⟩,hs491.drop.drop.drop⟩
end Go.Proofs.Ytlfihfmmhhcigaa
