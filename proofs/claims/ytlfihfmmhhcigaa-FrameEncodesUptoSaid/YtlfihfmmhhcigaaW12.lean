/- Steps of the proofs over the functions of this seat, printed by a program (gen.py) and checked by Lean. -/
import Derived.Test.YtlfihfmmhhcigaaW02
import Derived.Test.YtlfihfmmhhcigaaW00
import Derived.Test.YtlfihfmmhhcigaaW01
import Derived.Test.YtlfihfmmhhcigaaW11
set_option linter.unusedVariables false
set_option linter.unusedSimpArgs false
namespace Go.Proofs.Ytlfihfmmhhcigaa
open Go Go.FM Go.Proofs
attribute [local irreducible] wpList wpQuiet wpS Code.wp Calls
set_option maxHeartbeats 8000000 in
theorem great_spec {H:Hp} {w:World} {L:List Res} (hs:St H w (L)) (f:GFrame) {k_f:List Value} (h_f:kFrame.rep H f k_f) (hsiz:sizeF f ≤ 1048576):Calls Try.prog 10 #[.agg k_f.toArray] w (fun e w' => e = .returned (.bool (greatF f))∧St H w' (L)):=by
 obtain ⟨A14,n15,c16,A19,n20,c21,A23,n24,c25,rfl,b1,⟨b2,b3⟩,b4,⟨b5,b6⟩,b7,b8,⟨b9,b10⟩,b11,⟨b12,b13⟩,hl17,b18,hl22,hl26,b27,b28⟩:=h_f
 have:=hl17.len; have:n15 * 48 ≤ 140737488351232:=hl17.bnd; have:=hl17.le
 have:=hl22.len; have:n20 * 24 ≤ 140737488351232:=hl22.bnd; have:=hl22.le
 have:=hl26.len; have:n24 * 32 ≤ 140737488351232:=hl26.bnd; have:=hl26.le
 refine enter (args:=[.agg #[.int .u8 ((f.Kind:Nat):Int),.int .i64 f.From,.int .u64 ((f.ID.N:Nat):Int),.int .i64 f.ID.P,.int .u16 ((f.Set:Nat):Int),.int .u64 ((f.Cur.N:Nat):Int),.int .i64 f.Cur.P,.int .u64 ((f.Prom.N:Nat):Int),.int .i64 f.Prom.P,.slice A14 n15 c16,.int .u64 ((f.Base:Nat):Int),.slice A19 n20 c21,.slice A23 n24 c25,.int .u64 ((f.Ack:Nat):Int),.int .u64 ((f.Safe:Nat):Int)]]) (N:=92) Try.func10 rfl rfl rfl ?_
 have hsz2:=hsiz
 rw [sizeF_eq] at hsz2
 refine c_seq (c_region (st_m (m_box (cs:=[.int .u8 ((f.Kind:Nat):Int),.int .i64 f.From,.int .u64 ((f.ID.N:Nat):Int),.int .i64 f.ID.P,.int .u16 ((f.Set:Nat):Int),.int .u64 ((f.Cur.N:Nat):Int),.int .i64 f.Cur.P,.int .u64 ((f.Prom.N:Nat):Int),.int .i64 f.Prom.P,.slice A14 n15 c16,.int .u64 ((f.Base:Nat):Int),.slice A19 n20 c21,.slice A23 n24 c25,.int .u64 ((f.Ack:Nat):Int),.int .u64 ((f.Safe:Nat):Int)]) hs (v:=.agg #[.int .u8 ((f.Kind:Nat):Int),.int .i64 f.From,.int .u64 ((f.ID.N:Nat):Int),.int .i64 f.ID.P,.int .u16 ((f.Set:Nat):Int),.int .u64 ((f.Cur.N:Nat):Int),.int .i64 f.Cur.P,.int .u64 ((f.Prom.N:Nat):Int),.int .i64 f.Prom.P,.slice A14 n15 c16,.int .u64 ((f.Base:Nat):Int),.slice A19 n20 c21,.slice A23 n24 c25,.int .u64 ((f.Ack:Nat):Int),.int .u64 ((f.Safe:Nat):Int)]) (.tmp rfl rfl) rfl) ?_))
 rintro _ w30 ⟨g29,rfl,hs32⟩
 refine st (v:=.bool false) (x_assign .const) ?_
 refine c_nil (n_then (c_seq (c_region (st (v:=.pointer (some ⟨g29,0 + 11,none⟩)) (fa30_8 (.tmp rfl rfl)) ?_))))
 refine st (v:=.slice A19 n20 c21) (ld27 (.tmp rfl rfl) (hs32.cell 0 rfl (0 + 11) rfl)) ?_
 refine st (v:=.int .i64 ((n20:Nat):Int)) (x_len (n:=n20) Try.underlying27 (.tmp rfl rfl)) ?_
 refine st (v:=.pointer (some ⟨g29,0 + 12,none⟩)) (fa30_9 (.tmp rfl rfl)) ?_
 refine st (v:=.slice A23 n24 c25) (ld28 (.tmp rfl rfl) (hs32.cell 0 rfl (0 + 12) rfl)) ?_
 refine st (v:=.int .i64 ((n24:Nat):Int)) (x_len (n:=n24) Try.underlying28 (.tmp rfl rfl)) ?_
 refine st (v:=.int .i64 (((n20 + n24):Nat):Int)) (x_add (k:=.i64) (a:=((n20:Nat):Int)) (b:=((n24:Nat):Int)) (.tmp rfl rfl) (.tmp rfl rfl) ((w64 (by omega) (by omega)).trans (by omega))) ?_
 refine st (v:=.pointer (some ⟨g29,0 + 9,none⟩)) (fa30_6 (.tmp rfl rfl)) ?_
 refine st (v:=.slice A14 n15 c16) (ld26 (.tmp rfl rfl) (hs32.cell 0 rfl (0 + 9) rfl)) ?_
 refine st (v:=.int .i64 ((n15:Nat):Int)) (x_len (n:=n15) Try.underlying26 (.tmp rfl rfl)) ?_
 refine st (v:=.int .i64 ((((n20 + n24) + n15):Nat):Int)) (x_add (k:=.i64) (a:=(((n20 + n24):Nat):Int)) (b:=((n15:Nat):Int)) (.tmp rfl rfl) (.tmp rfl rfl) ((w64 (by omega) (by omega)).trans (by omega))) ?_
 refine st (v:=.int .i64 ((((n20 + n24) + n15):Nat):Int)) (x_assign (.tmp rfl rfl)) ?_
 refine c_nil (n_then (c_seq (c_seq (c_region (st (v:=.int .i64 0) (x_assign .const) ?_)))))
 refine c_nil (n_then (c_block (c_loop (fun ρ w mm => ∃ (n:Nat) (i:Nat),ρ 1 = .pointer (some ⟨g29,0,none⟩)∧ρ 3 = .int .i64 ((n:Nat):Int)∧ρ 4 = .int .i64 ((i:Nat):Int)∧(i ≤ f.Msgs.length)∧(n = f.Msgs.length + f.Items.length + f.States.length + zT List.length f.Msgs i)∧St H w (obj g29 30 [.int .u8 ((f.Kind:Nat):Int),.int .i64 f.From,.int .u64 ((f.ID.N:Nat):Int),.int .i64 f.ID.P,.int .u16 ((f.Set:Nat):Int),.int .u64 ((f.Cur.N:Nat):Int),.int .i64 f.Cur.P,.int .u64 ((f.Prom.N:Nat):Int),.int .i64 f.Prom.P,.slice A14 n15 c16,.int .u64 ((f.Base:Nat):Int),.slice A19 n20 c21,.slice A23 n24 c25,.int .u64 ((f.Ack:Nat):Int),.int .u64 ((f.Safe:Nat):Int)]::L)∧mm = f.Msgs.length - i) _ ⟨((n20 + n24) + n15),0,rfl,rfl,rfl,(by omega),(show _ = _ + 0 by omega),hs32,rfl⟩ ?_)))
 rintro ρ w mm ⟨n,i,hρ34,hρ35,hρ36,hi,hn,hs37,rfl⟩
 refine c_seq (c_seq (c_region (st (v:=.int .i64 ((i:Nat):Int)) (x_move (.tmp rfl hρ36)) ?_)))
 refine st (v:=.pointer (some ⟨g29,0 + 11,none⟩)) (fa30_8 (.tmp rfl hρ34)) ?_
 refine st (v:=.slice A19 n20 c21) (ld27 (.tmp rfl rfl) (hs37.cell 0 rfl (0 + 11) rfl)) ?_
 refine st (v:=.int .i64 ((n20:Nat):Int)) (x_len (n:=n20) Try.underlying27 (.tmp rfl rfl)) ?_
 refine st (v:=.bool (decide ((((i:Nat):Int):Int) < ((n20:Nat):Int)))) (x_lss (k:=.i64) (a:=((i:Nat):Int)) (b:=((n20:Nat):Int)) (.tmp rfl rfl) (.tmp rfl rfl)) ?_
 refine c_nil (n_then ?_)
 rcases Bool.eq_false_or_eq_true (decide ((((i:Nat):Int):Int) < ((n20:Nat):Int))) with hc38 | hc38
 have hp38:(((i:Nat):Int):Int) < ((n20:Nat):Int):=of_decide_eq_true hc38
 refine c_cond_t (t:=true) (.tmp rfl (congrArg Value.bool hc38)) rfl ?_
 refine c_skip (n_then (c_seq (c_block (c_region (st (v:=.int .i64 ((n:Nat):Int)) (x_move (.tmp rfl hρ35)) ?_)))))
 refine st (v:=.pointer (some ⟨g29,0 + 11,none⟩)) (fa30_8 (.tmp rfl hρ34)) ?_
 refine st (v:=.slice A19 n20 c21) (ld27 (.tmp rfl rfl) (hs37.cell 0 rfl (0 + 11) rfl)) ?_
 refine st (v:=.int .i64 ((i:Nat):Int)) (x_move (.tmp rfl hρ36)) ?_
 obtain ⟨e39,b40,o41,cs42,hx43,hA44,hr45,hat46⟩:=hl22.get (i:=i) (by omega)
 obtain ⟨A47,n48,c49,rfl,hy50⟩:=hr45
 have:=hy50.len; have:=hy50.bnd; have:=hy50.le
 have hat46x:∀ {w:World} {L:List Res},St H w L → At w ⟨b40,o41 + i * 1,none⟩ [.slice A47 n48 c49]:=fun h => hat46 h
 have hza:=zT_next (g:=List.length) hx43; have hzb:=zT_le List.length f.Msgs (i + 1)
 refine st (v:=.pointer (some ⟨b40,(o41 + i * 1),none⟩)) (ixo27 (.tmp rfl rfl) hA44 (i:=((i:Nat):Int)) (.tmp rfl rfl) (by omega) (by omega) (by omega)) ?_
 refine st (v:=.slice A47 n48 c49) (ld33 (.tmp rfl rfl) ((hat46x hs37).cell 0 rfl)) ?_
 refine st (v:=.int .i64 ((n48:Nat):Int)) (x_len (n:=n48) Try.underlying33 (.tmp rfl rfl)) ?_
 refine st (v:=.int .i64 (((n + n48):Nat):Int)) (x_add (k:=.i64) (a:=((n:Nat):Int)) (b:=((n48:Nat):Int)) (.tmp rfl rfl) (.tmp rfl rfl) ((w64 (by omega) (by omega)).trans (by omega))) ?_
 refine st (v:=.int .i64 (((n + n48):Nat):Int)) (x_assign (.tmp rfl rfl)) ?_
 refine c_nil (n_block (n_then (c_region (st (v:=.int .i64 ((i:Nat):Int)) (x_move (.tmp rfl hρ36)) ?_))))
 refine st (v:=.int .i64 (((i + 1):Nat):Int)) (x_add (k:=.i64) (a:=((i:Nat):Int)) (b:=1) (.tmp rfl rfl) .const ((w64 (by omega) (by omega)).trans (by omega))) ?_
 refine st (v:=.int .i64 (((i + 1):Nat):Int)) (x_assign (.tmp rfl rfl)) ?_
 refine c_nil ?_
 refine n_then ⟨_,_,rfl,?_,(n + n48),(i + 1),hρ34,rfl,rfl,(by omega),(by rw [zT_next hx43]; omega),hs37,rfl⟩
 omega
 have hp38:¬ ((((i:Nat):Int):Int) < ((n20:Nat):Int)):=of_decide_eq_false hc38
 refine c_cond_f (t:=false) (.tmp rfl (congrArg Value.bool hc38)) rfl ?_
 refine c_exit (x_then (x_then (x_here (n_then (c_seq (c_seq (c_region (st (v:=.int .i64 0) (x_assign .const) ?_))))))))
 refine c_nil (n_then (c_block ?_))
 have hz1:=zT_all (g:=List.length) (show f.Msgs.length ≤ i by omega)
 refine c_loop (fun ρ w mm => ∃ (n2:Nat) (j:Nat),ρ 1 = .pointer (some ⟨g29,0,none⟩)∧ρ 3 = .int .i64 ((n2:Nat):Int)∧ρ 5 = .int .i64 ((j:Nat):Int)∧(j ≤ f.Items.length)∧(n2 = f.Msgs.length + f.Items.length + f.States.length + (f.Msgs.map List.length).sum + zT gM f.Items j)∧St H w (obj g29 30 [.int .u8 ((f.Kind:Nat):Int),.int .i64 f.From,.int .u64 ((f.ID.N:Nat):Int),.int .i64 f.ID.P,.int .u16 ((f.Set:Nat):Int),.int .u64 ((f.Cur.N:Nat):Int),.int .i64 f.Cur.P,.int .u64 ((f.Prom.N:Nat):Int),.int .i64 f.Prom.P,.slice A14 n15 c16,.int .u64 ((f.Base:Nat):Int),.slice A19 n20 c21,.slice A23 n24 c25,.int .u64 ((f.Ack:Nat):Int),.int .u64 ((f.Safe:Nat):Int)]::L)∧mm = f.Items.length - j) _ ⟨n,0,hρ34,hρ35,rfl,(by omega),(show _ = _ + 0 by omega),hs37,rfl⟩ ?_
 rintro ρ w mm ⟨n2,j,hρ52,hρ53,hρ54,hj,hn2,hs55,rfl⟩
 refine c_seq (c_seq (c_region (st (v:=.int .i64 ((j:Nat):Int)) (x_move (.tmp rfl hρ54)) ?_)))
 refine st (v:=.pointer (some ⟨g29,0 + 12,none⟩)) (fa30_9 (.tmp rfl hρ52)) ?_
 refine st (v:=.slice A23 n24 c25) (ld28 (.tmp rfl rfl) (hs55.cell 0 rfl (0 + 12) rfl)) ?_
 refine st (v:=.int .i64 ((n24:Nat):Int)) (x_len (n:=n24) Try.underlying28 (.tmp rfl rfl)) ?_
 refine st (v:=.bool (decide ((((j:Nat):Int):Int) < ((n24:Nat):Int)))) (x_lss (k:=.i64) (a:=((j:Nat):Int)) (b:=((n24:Nat):Int)) (.tmp rfl rfl) (.tmp rfl rfl)) ?_
 refine c_nil (n_then ?_)
 rcases Bool.eq_false_or_eq_true (decide ((((j:Nat):Int):Int) < ((n24:Nat):Int))) with hc56 | hc56
 have hp56:(((j:Nat):Int):Int) < ((n24:Nat):Int):=of_decide_eq_true hc56
 refine c_cond_t (t:=true) (.tmp rfl (congrArg Value.bool hc56)) rfl ?_
 refine c_skip (n_then (c_seq (c_block (c_region (st (v:=.int .i64 ((n2:Nat):Int)) (x_move (.tmp rfl hρ53)) ?_)))))
 refine st (v:=.pointer (some ⟨g29,0 + 12,none⟩)) (fa30_9 (.tmp rfl hρ52)) ?_
 refine st (v:=.slice A23 n24 c25) (ld28 (.tmp rfl rfl) (hs55.cell 0 rfl (0 + 12) rfl)) ?_
 refine st (v:=.int .i64 ((j:Nat):Int)) (x_move (.tmp rfl hρ54)) ?_
 obtain ⟨e57,b58,o59,cs60,hx61,hA62,hr63,hat64⟩:=hl26.get (i:=j) (by omega)
 obtain ⟨A67,n68,c69,rfl,⟨b65,b66⟩,hy70⟩:=hr63
 have:=hy70.len; have:=hy70.bnd; have:=hy70.le
 have hat64x:∀ {w:World} {L:List Res},St H w L → At w ⟨b58,o59 + j * 2,none⟩ [.int .i64 e57.From,.slice A67 n68 c69]:=fun h => hat64 h
 have hza:=zT_next (g:=gM) hx61; have hzb:=zT_le gM f.Items (j + 1); have hgm:gM e57 = e57.M.length:=rfl
 refine st (v:=.pointer (some ⟨b58,(o59 + j * 2),none⟩)) (ixo28 (.tmp rfl rfl) hA62 (i:=((j:Nat):Int)) (.tmp rfl rfl) (by omega) (by omega) (by omega)) ?_
 refine st (v:=.pointer (some ⟨b58,(o59 + j * 2) + 1,none⟩)) (fa49_1 (.tmp rfl rfl)) ?_
 refine st (v:=.slice A67 n68 c69) (ld33 (.tmp rfl rfl) ((hat64x hs55).cell 1 rfl)) ?_
 refine st (v:=.int .i64 ((n68:Nat):Int)) (x_len (n:=n68) Try.underlying33 (.tmp rfl rfl)) ?_
 refine st (v:=.int .i64 (((n2 + n68):Nat):Int)) (x_add (k:=.i64) (a:=((n2:Nat):Int)) (b:=((n68:Nat):Int)) (.tmp rfl rfl) (.tmp rfl rfl) ((w64 (by omega) (by omega)).trans (by omega))) ?_
 refine st (v:=.int .i64 (((n2 + n68):Nat):Int)) (x_assign (.tmp rfl rfl)) ?_
 refine c_nil (n_block (n_then (c_region (st (v:=.int .i64 ((j:Nat):Int)) (x_move (.tmp rfl hρ54)) ?_))))
 refine st (v:=.int .i64 (((j + 1):Nat):Int)) (x_add (k:=.i64) (a:=((j:Nat):Int)) (b:=1) (.tmp rfl rfl) .const ((w64 (by omega) (by omega)).trans (by omega))) ?_
 refine st (v:=.int .i64 (((j + 1):Nat):Int)) (x_assign (.tmp rfl rfl)) ?_
 refine c_nil ?_
 refine n_then ⟨_,_,rfl,?_,(n2 + n68),(j + 1),hρ52,rfl,rfl,(by omega),(by rw [zT_next hx61]; show _ = _ + (_ + e57.M.length); omega),hs55,rfl⟩
 omega
 have hp56:¬ ((((j:Nat):Int):Int) < ((n24:Nat):Int)):=of_decide_eq_false hc56
 refine c_cond_f (t:=false) (.tmp rfl (congrArg Value.bool hc56)) rfl ?_
 refine c_exit (x_then (x_then (x_here (n_then (c_seq (c_seq (c_region (st (v:=.int .i64 0) (x_assign .const) ?_))))))))
 refine c_nil (n_then (c_block ?_))
 have hz2:=zT_all (g:=gM) (show f.Items.length ≤ j by omega)
 refine c_loop (fun ρ w mm => ∃ (n3:Nat) (q:Nat),ρ 1 = .pointer (some ⟨g29,0,none⟩)∧ρ 3 = .int .i64 ((n3:Nat):Int)∧ρ 6 = .int .i64 ((q:Nat):Int)∧(q ≤ f.States.length)∧(n3 = f.Msgs.length + f.Items.length + f.States.length + (f.Msgs.map List.length).sum + (f.Items.map gM).sum + zT gS f.States q)∧St H w (obj g29 30 [.int .u8 ((f.Kind:Nat):Int),.int .i64 f.From,.int .u64 ((f.ID.N:Nat):Int),.int .i64 f.ID.P,.int .u16 ((f.Set:Nat):Int),.int .u64 ((f.Cur.N:Nat):Int),.int .i64 f.Cur.P,.int .u64 ((f.Prom.N:Nat):Int),.int .i64 f.Prom.P,.slice A14 n15 c16,.int .u64 ((f.Base:Nat):Int),.slice A19 n20 c21,.slice A23 n24 c25,.int .u64 ((f.Ack:Nat):Int),.int .u64 ((f.Safe:Nat):Int)]::L)∧mm = f.States.length - q) _ ⟨n2,0,hρ52,hρ53,rfl,(by omega),(show _ = _ + 0 by omega),hs55,rfl⟩ ?_
 rintro ρ w mm ⟨n3,q,hρ72,hρ73,hρ74,hq,hn3,hs75,rfl⟩
 refine c_seq (c_seq (c_region (st (v:=.int .i64 ((q:Nat):Int)) (x_move (.tmp rfl hρ74)) ?_)))
 refine st (v:=.pointer (some ⟨g29,0 + 9,none⟩)) (fa30_6 (.tmp rfl hρ72)) ?_
 refine st (v:=.slice A14 n15 c16) (ld26 (.tmp rfl rfl) (hs75.cell 0 rfl (0 + 9) rfl)) ?_
 refine st (v:=.int .i64 ((n15:Nat):Int)) (x_len (n:=n15) Try.underlying26 (.tmp rfl rfl)) ?_
 refine st (v:=.bool (decide ((((q:Nat):Int):Int) < ((n15:Nat):Int)))) (x_lss (k:=.i64) (a:=((q:Nat):Int)) (b:=((n15:Nat):Int)) (.tmp rfl rfl) (.tmp rfl rfl)) ?_
 refine c_nil (n_then ?_)
 rcases Bool.eq_false_or_eq_true (decide ((((q:Nat):Int):Int) < ((n15:Nat):Int))) with hc76 | hc76
 have hp76:(((q:Nat):Int):Int) < ((n15:Nat):Int):=of_decide_eq_true hc76
 refine c_cond_t (t:=true) (.tmp rfl (congrArg Value.bool hc76)) rfl ?_
 refine c_skip (n_then (c_seq (c_block (c_seq (c_region (st (v:=.int .i64 ((n3:Nat):Int)) (x_move (.tmp rfl hρ73)) ?_))))))
 refine st (v:=.pointer (some ⟨g29,0 + 9,none⟩)) (fa30_6 (.tmp rfl hρ72)) ?_
 refine st (v:=.slice A14 n15 c16) (ld26 (.tmp rfl rfl) (hs75.cell 0 rfl (0 + 9) rfl)) ?_
 refine st (v:=.int .i64 ((q:Nat):Int)) (x_move (.tmp rfl hρ74)) ?_
 obtain ⟨e77,b78,o79,cs80,hx81,hA82,hr83,hat84⟩:=hl17.get (i:=q) (by omega)
 obtain ⟨A90,n91,c92,rfl,b85,⟨b86,b87⟩,⟨b88,b89⟩,hl93⟩:=hr83
 have:=hl93.len; have:n91 * 32 ≤ 140737488351232:=hl93.bnd; have:=hl93.le
 have hat84x:∀ {w:World} {L:List Res},St H w L → At w ⟨b78,o79 + q * 4,none⟩ [.int .u64 ((e77.V.N:Nat):Int),.int .i64 e77.V.P,.int .i64 e77.Floor,.slice A90 n91 c92]:=fun h => hat84 h
 have hza:=zT_next (g:=gS) hx81; have hzb:=zT_le gS f.States (q + 1); have hgs:gS e77 = e77.Items.length + (e77.Items.map gM).sum:=rfl
 refine st (v:=.pointer (some ⟨b78,(o79 + q * 4),none⟩)) (ixo26 (.tmp rfl rfl) hA82 (i:=((q:Nat):Int)) (.tmp rfl rfl) (by omega) (by omega) (by omega)) ?_
 refine st (v:=.pointer (some ⟨b78,(o79 + q * 4) + 3,none⟩)) (fa52_2 (.tmp rfl rfl)) ?_
 refine st (v:=.slice A90 n91 c92) (ld28 (.tmp rfl rfl) ((hat84x hs75).cell 3 rfl)) ?_
 refine st (v:=.int .i64 ((n91:Nat):Int)) (x_len (n:=n91) Try.underlying28 (.tmp rfl rfl)) ?_
 refine st (v:=.int .i64 (((n3 + n91):Nat):Int)) (x_add (k:=.i64) (a:=((n3:Nat):Int)) (b:=((n91:Nat):Int)) (.tmp rfl rfl) (.tmp rfl rfl) ((w64 (by omega) (by omega)).trans (by omega))) ?_
 refine st (v:=.int .i64 (((n3 + n91):Nat):Int)) (x_assign (.tmp rfl rfl)) ?_
 refine c_nil (n_then (c_seq (c_region (st (v:=.int .i64 0) (x_assign .const) ?_))))
 refine c_nil (n_then (c_block ?_))
 have hzq:=zT_next (g:=gS) hx81; have hzl:=zT_le gS f.States (q + 1); have hgs:gS e77 = e77.Items.length + (e77.Items.map gM).sum:=rfl
 refine c_loop (fun ρ w mm => ∃ (n4:Nat) (k:Nat),ρ 1 = .pointer (some ⟨g29,0,none⟩)∧ρ 3 = .int .i64 ((n4:Nat):Int)∧ρ 6 = .int .i64 ((q:Nat):Int)∧ρ 7 = .int .i64 ((k:Nat):Int)∧(k ≤ e77.Items.length)∧(n4 = f.Msgs.length + f.Items.length + f.States.length + (f.Msgs.map List.length).sum + (f.Items.map gM).sum + zT gS f.States q + e77.Items.length + zT gM e77.Items k)∧St H w (obj g29 30 [.int .u8 ((f.Kind:Nat):Int),.int .i64 f.From,.int .u64 ((f.ID.N:Nat):Int),.int .i64 f.ID.P,.int .u16 ((f.Set:Nat):Int),.int .u64 ((f.Cur.N:Nat):Int),.int .i64 f.Cur.P,.int .u64 ((f.Prom.N:Nat):Int),.int .i64 f.Prom.P,.slice A14 n15 c16,.int .u64 ((f.Base:Nat):Int),.slice A19 n20 c21,.slice A23 n24 c25,.int .u64 ((f.Ack:Nat):Int),.int .u64 ((f.Safe:Nat):Int)]::L)∧mm = e77.Items.length - k) _ ⟨(n3 + n91),0,hρ72,rfl,hρ74,rfl,(by omega),(show _ = _ + 0 by omega),hs75,rfl⟩ ?_
 rintro ρ w mm ⟨n4,k,hρ95,hρ96,hρ97,hρ98,hk,hn4,hs99,rfl⟩
 refine c_seq (c_seq (c_region (st (v:=.int .i64 ((k:Nat):Int)) (x_move (.tmp rfl hρ98)) ?_)))
 refine st (v:=.pointer (some ⟨g29,0 + 9,none⟩)) (fa30_6 (.tmp rfl hρ95)) ?_
 refine st (v:=.slice A14 n15 c16) (ld26 (.tmp rfl rfl) (hs99.cell 0 rfl (0 + 9) rfl)) ?_
 refine st (v:=.int .i64 ((q:Nat):Int)) (x_move (.tmp rfl hρ97)) ?_
 refine st (v:=.pointer (some ⟨b78,(o79 + q * 4),none⟩)) (ixo26 (.tmp rfl rfl) hA82 (i:=((q:Nat):Int)) (.tmp rfl rfl) (by omega) (by omega) (by omega)) ?_
 refine st (v:=.pointer (some ⟨b78,(o79 + q * 4) + 3,none⟩)) (fa52_2 (.tmp rfl rfl)) ?_
 refine st (v:=.slice A90 n91 c92) (ld28 (.tmp rfl rfl) ((hat84x hs99).cell 3 rfl)) ?_
 refine st (v:=.int .i64 ((n91:Nat):Int)) (x_len (n:=n91) Try.underlying28 (.tmp rfl rfl)) ?_
 refine st (v:=.bool (decide ((((k:Nat):Int):Int) < ((n91:Nat):Int)))) (x_lss (k:=.i64) (a:=((k:Nat):Int)) (b:=((n91:Nat):Int)) (.tmp rfl rfl) (.tmp rfl rfl)) ?_
 refine c_nil (n_then ?_)
 rcases Bool.eq_false_or_eq_true (decide ((((k:Nat):Int):Int) < ((n91:Nat):Int))) with hc100 | hc100
 have hp100:(((k:Nat):Int):Int) < ((n91:Nat):Int):=of_decide_eq_true hc100
 refine c_cond_t (t:=true) (.tmp rfl (congrArg Value.bool hc100)) rfl ?_
 refine c_skip (n_then (c_seq (c_block (c_region (st (v:=.int .i64 ((n4:Nat):Int)) (x_move (.tmp rfl hρ96)) ?_)))))
 refine st (v:=.pointer (some ⟨g29,0 + 9,none⟩)) (fa30_6 (.tmp rfl hρ95)) ?_
 refine st (v:=.slice A14 n15 c16) (ld26 (.tmp rfl rfl) (hs99.cell 0 rfl (0 + 9) rfl)) ?_
 refine st (v:=.int .i64 ((q:Nat):Int)) (x_move (.tmp rfl hρ97)) ?_
 refine st (v:=.pointer (some ⟨b78,(o79 + q * 4),none⟩)) (ixo26 (.tmp rfl rfl) hA82 (i:=((q:Nat):Int)) (.tmp rfl rfl) (by omega) (by omega) (by omega)) ?_
 refine st (v:=.pointer (some ⟨b78,(o79 + q * 4) + 3,none⟩)) (fa52_2 (.tmp rfl rfl)) ?_
 refine st (v:=.slice A90 n91 c92) (ld28 (.tmp rfl rfl) ((hat84x hs99).cell 3 rfl)) ?_
 refine st (v:=.int .i64 ((k:Nat):Int)) (x_move (.tmp rfl hρ98)) ?_
 obtain ⟨e101,b102,o103,cs104,hx105,hA106,hr107,hat108⟩:=hl93.get (i:=k) (by omega)
 obtain ⟨A111,n112,c113,rfl,⟨b109,b110⟩,hy114⟩:=hr107
 have:=hy114.len; have:=hy114.bnd; have:=hy114.le
 have hat108x:∀ {w:World} {L:List Res},St H w L → At w ⟨b102,o103 + k * 2,none⟩ [.int .i64 e101.From,.slice A111 n112 c113]:=fun h => hat108 h
 have hzc:=zT_next (g:=gM) hx105; have hzd:=zT_le gM e77.Items (k + 1); have hgm:gM e101 = e101.M.length:=rfl
 refine st (v:=.pointer (some ⟨b102,(o103 + k * 2),none⟩)) (ixo28 (.tmp rfl rfl) hA106 (i:=((k:Nat):Int)) (.tmp rfl rfl) (by omega) (by omega) (by omega)) ?_
 refine st (v:=.pointer (some ⟨b102,(o103 + k * 2) + 1,none⟩)) (fa49_1 (.tmp rfl rfl)) ?_
 refine st (v:=.slice A111 n112 c113) (ld33 (.tmp rfl rfl) ((hat108x hs99).cell 1 rfl)) ?_
 refine st (v:=.int .i64 ((n112:Nat):Int)) (x_len (n:=n112) Try.underlying33 (.tmp rfl rfl)) ?_
 refine st (v:=.int .i64 (((n4 + n112):Nat):Int)) (x_add (k:=.i64) (a:=((n4:Nat):Int)) (b:=((n112:Nat):Int)) (.tmp rfl rfl) (.tmp rfl rfl) ((w64 (by omega) (by omega)).trans (by omega))) ?_
 refine st (v:=.int .i64 (((n4 + n112):Nat):Int)) (x_assign (.tmp rfl rfl)) ?_
 refine c_nil (n_block (n_then (c_region (st (v:=.int .i64 ((k:Nat):Int)) (x_move (.tmp rfl hρ98)) ?_))))
 refine st (v:=.int .i64 (((k + 1):Nat):Int)) (x_add (k:=.i64) (a:=((k:Nat):Int)) (b:=1) (.tmp rfl rfl) .const ((w64 (by omega) (by omega)).trans (by omega))) ?_
 refine st (v:=.int .i64 (((k + 1):Nat):Int)) (x_assign (.tmp rfl rfl)) ?_
 refine c_nil ?_
 refine n_then ⟨_,_,rfl,?_,(n4 + n112),(k + 1),hρ95,rfl,hρ97,rfl,(by omega),(by rw [zT_next hx105]; show _ = _ + (_ + e101.M.length); omega),hs99,rfl⟩
 omega
 have hp100:¬ ((((k:Nat):Int):Int) < ((n91:Nat):Int)):=of_decide_eq_false hc100
 refine c_cond_f (t:=false) (.tmp rfl (congrArg Value.bool hc100)) rfl ?_
 refine c_exit (x_then (x_then (x_here (n_block (n_then (c_region (st (v:=.int .i64 ((q:Nat):Int)) (x_move (.tmp rfl hρ97)) ?_)))))))
 refine st (v:=.int .i64 (((q + 1):Nat):Int)) (x_add (k:=.i64) (a:=((q:Nat):Int)) (b:=1) (.tmp rfl rfl) .const ((w64 (by omega) (by omega)).trans (by omega))) ?_
 refine st (v:=.int .i64 (((q + 1):Nat):Int)) (x_assign (.tmp rfl rfl)) ?_
 refine c_nil ?_
 refine n_then ⟨_,_,rfl,?_,n4,(q + 1),hρ95,hρ96,rfl,(by omega),(by rw [zT_next hx81]; show _ = _ + (_ + (e77.Items.length + (e77.Items.map gM).sum)); have hz4:=zT_all (g:=gM) (show e77.Items.length ≤ k by omega); omega),hs99,rfl⟩
 omega
 have hp76:¬ ((((q:Nat):Int):Int) < ((n15:Nat):Int)):=of_decide_eq_false hc76
 refine c_cond_f (t:=false) (.tmp rfl (congrArg Value.bool hc76)) rfl ?_
 refine c_exit (x_then (x_then (x_here (n_then (c_seq (c_region (st (v:=.int .i64 ((n3:Nat):Int)) (x_move (.tmp rfl hρ73)) ?_)))))))
 refine st (v:=.bool (decide ((20000:Int) < ((n3:Nat):Int)))) (x_gtr (k:=.i64) (a:=((n3:Nat):Int)) (b:=20000) (.tmp rfl rfl) .const) ?_
 refine st (v:=.bool (decide ((20000:Int) < ((n3:Nat):Int)))) (x_assign (.tmp rfl rfl)) ?_
 refine c_nil (n_then (c_ret (leave_ret (res_one (v:=.bool (decide ((20000:Int) < ((n3:Nat):Int)))) rfl (.mk rfl rfl)) ?_)))
 have hans115:(greatF f) = (decide ((20000:Int) < ((n3:Nat):Int))):=(great_is (by rw [sizeF_eq]; have hz3:=zT_all (g:=gS) (show f.States.length ≤ q by omega); omega)).symm
 rw [hans115]
 exact ⟨rfl,hs75.drop⟩
set_option maxHeartbeats 8000000 in
theorem awake_spec {H:Hp} {w:World} {L:List Res} (hs:St H w (L)) :Calls Try.prog 11 #[] w (fun e w' => e = .returned (.bool true)∧St H w' (L)):=by
 refine enter (args:=[]) (N:=23) Try.func11 rfl rfl rfl ?_
 refine c_seq (c_region (st (v:=.bool false) (x_assign .const) ?_))
 refine c_nil (n_then (c_seq (c_region (st (v:=.agg #[.int .u8 1,.int .i64 1,.int .u64 0,.int .i64 0,.int .u16 0,.int .u64 0,.int .i64 0,.int .u64 0,.int .i64 0,.slice none 0 0,.int .u64 0,.slice none 0 0,.slice none 0 0,.int .u64 0,.int .u64 0]) (bl30 (ps:=[(0,.int .u8 1),(1,.int .i64 1)]) (.cons .const (.cons .const Evp.nil)) rfl) ?_))))
 have hr1:kFrame.rep H (GFrame.mk 1 1 (GViewID.mk 0 0) 0 (GViewID.mk 0 0) (GViewID.mk 0 0) [] 0 [] [] 0 0) [.int .u8 1,.int .i64 1,.int .u64 0,.int .i64 0,.int .u16 0,.int .u64 0,.int .i64 0,.int .u64 0,.int .i64 0,.slice none 0 0,.int .u64 0,.slice none 0 0,.slice none 0 0,.int .u64 0,.int .u64 0]:=⟨none,0,0,none,0,0,none,0,0,rfl,(show 1 < 256 from by omega),(show IB 1 from ⟨by omega,by omega⟩),(show 0 < 18446744073709551616 from by omega),(show IB 0 from ⟨by omega,by omega⟩),(show 0 < 65536 from by omega),(show 0 < 18446744073709551616 from by omega),(show IB 0 from ⟨by omega,by omega⟩),(show 0 < 18446744073709551616 from by omega),(show IB 0 from ⟨by omega,by omega⟩),(Sl.nil _ _ none),(show 0 < 18446744073709551616 from by omega),(Sl.nil _ _ none),(Sl.nil _ _ none),(show 0 < 18446744073709551616 from by omega),(show 0 < 18446744073709551616 from by omega)⟩
 refine st_c cb13 .func (evs1 (.tmp rfl rfl)) (encode_spec hs (GFrame.mk 1 1 (GViewID.mk 0 0) 0 (GViewID.mk 0 0) (GViewID.mk 0 0) [] 0 [] [] 0 0) hr1 awk_big) ?_
 rintro e w2 ⟨H4,v6,hle5,rfl,sm9,ok7,hs3⟩
 refine ⟨_,rfl,?_⟩
 refine st (v:=.tuple #[v6,.int .i64 ((encC (GFrame.mk 1 1 (GViewID.mk 0 0) 0 (GViewID.mk 0 0) (GViewID.mk 0 0) [] 0 [] [] 0 0)).2)]) (x_move (.tmp rfl rfl)) ?_
 refine st (v:=v6) (x_extract (.tmp rfl rfl) (i:=0) rfl) ?_
 refine st (v:=.int .i64 ((encC (GFrame.mk 1 1 (GViewID.mk 0 0) 0 (GViewID.mk 0 0) (GViewID.mk 0 0) [] 0 [] [] 0 0)).2)) (x_extract (.tmp rfl rfl) (i:=1) rfl) ?_
 refine st (v:=v6) (x_assign (.tmp rfl rfl)) ?_
 refine st (v:=.int .i64 ((encC (GFrame.mk 1 1 (GViewID.mk 0 0) 0 (GViewID.mk 0 0) (GViewID.mk 0 0) [] 0 [] [] 0 0)).2)) (x_assign (.tmp rfl rfl)) ?_
 refine c_nil (n_then (c_seq (c_region ?_)))
 have hal:((encC (GFrame.mk 1 1 (GViewID.mk 0 0) 0 (GViewID.mk 0 0) (GViewID.mk 0 0) [] 0 [] [] 0 0)).1).length = 10:=by rw [awk]; exact awk_len
 obtain ⟨H10,A11,c12,hle13,hs14,rfl,hp15⟩:=hs3.freezeBs ok7 sm9 (by omega)
 have hy16:By H10 A11 (((encC (GFrame.mk 1 1 (GViewID.mk 0 0) 0 (GViewID.mk 0 0) (GViewID.mk 0 0) [] 0 [] [] 0 0)).1).length) c12 ((encC (GFrame.mk 1 1 (GViewID.mk 0 0) 0 (GViewID.mk 0 0) (GViewID.mk 0 0) [] 0 [] [] 0 0)).1):=⟨hp15,by omega⟩
 skip
 refine st (v:=.int .i64 ((encC (GFrame.mk 1 1 (GViewID.mk 0 0) 0 (GViewID.mk 0 0) (GViewID.mk 0 0) [] 0 [] [] 0 0)).2)) (x_move (.tmp rfl rfl)) ?_
 refine st (v:=.bool (decide ((((encC (GFrame.mk 1 1 (GViewID.mk 0 0) 0 (GViewID.mk 0 0) (GViewID.mk 0 0) [] 0 [] [] 0 0)).2):Int) = 0))) (x_eql (k:=.i64) (a:=((encC (GFrame.mk 1 1 (GViewID.mk 0 0) 0 (GViewID.mk 0 0) (GViewID.mk 0 0) [] 0 [] [] 0 0)).2)) (b:=0) (.tmp rfl rfl) .const) ?_
 refine st (v:=.bool (decide ((((encC (GFrame.mk 1 1 (GViewID.mk 0 0) 0 (GViewID.mk 0 0) (GViewID.mk 0 0) [] 0 [] [] 0 0)).2):Int) = 0))) (x_move (.tmp rfl rfl)) ?_
 have hc17:(decide ((((encC (GFrame.mk 1 1 (GViewID.mk 0 0) 0 (GViewID.mk 0 0) (GViewID.mk 0 0) [] 0 [] [] 0 0)).2):Int) = 0)) = true:=(decide_eq_true (by rw [awk]))
 refine g_yes (yk 10 true rfl rfl hc17) ?_
 refine st (v:=.slice A11 (((encC (GFrame.mk 1 1 (GViewID.mk 0 0) 0 (GViewID.mk 0 0) (GViewID.mk 0 0) [] 0 [] [] 0 0)).1).length) c12) (x_move (.tmp rfl rfl)) ?_
 refine g_yes (yk 10 true rfl rfl hc17) ?_
 refine st (v:=.int .i64 (((((encC (GFrame.mk 1 1 (GViewID.mk 0 0) 0 (GViewID.mk 0 0) (GViewID.mk 0 0) [] 0 [] [] 0 0)).1).length):Nat):Int)) (x_len (n:=(((encC (GFrame.mk 1 1 (GViewID.mk 0 0) 0 (GViewID.mk 0 0) (GViewID.mk 0 0) [] 0 [] [] 0 0)).1).length)) Try.underlying33 (.tmp rfl rfl)) ?_
 refine g_yes (yk 10 true rfl rfl hc17) ?_
 refine st (v:=.bool (decide (((((((encC (GFrame.mk 1 1 (GViewID.mk 0 0) 0 (GViewID.mk 0 0) (GViewID.mk 0 0) [] 0 [] [] 0 0)).1).length):Nat):Int):Int) = 10))) (x_eql (k:=.i64) (a:=(((((encC (GFrame.mk 1 1 (GViewID.mk 0 0) 0 (GViewID.mk 0 0) (GViewID.mk 0 0) [] 0 [] [] 0 0)).1).length):Nat):Int)) (b:=10) (.tmp rfl rfl) .const) ?_
 refine st (v:=.bool (decide (((((((encC (GFrame.mk 1 1 (GViewID.mk 0 0) 0 (GViewID.mk 0 0) (GViewID.mk 0 0) [] 0 [] [] 0 0)).1).length):Nat):Int):Int) = 10))) (x_pick_t (.tmp rfl (congrArg Value.bool hc17)) (.tmp rfl rfl)) ?_
 refine st (v:=.bool (decide (((((((encC (GFrame.mk 1 1 (GViewID.mk 0 0) 0 (GViewID.mk 0 0) (GViewID.mk 0 0) [] 0 [] [] 0 0)).1).length):Nat):Int):Int) = 10))) (x_move (.tmp rfl rfl)) ?_
 have hc18:(decide (((((((encC (GFrame.mk 1 1 (GViewID.mk 0 0) 0 (GViewID.mk 0 0) (GViewID.mk 0 0) [] 0 [] [] 0 0)).1).length):Nat):Int):Int) = 10)) = true:=(decide_eq_true (by rw [awk,awk_len]; rfl))
 refine g_yes (yk 15 true rfl rfl hc18) ?_
 refine st (v:=.slice A11 (((encC (GFrame.mk 1 1 (GViewID.mk 0 0) 0 (GViewID.mk 0 0) (GViewID.mk 0 0) [] 0 [] [] 0 0)).1).length) c12) (x_move (.tmp rfl rfl)) ?_
 refine g_yes (yk 15 true rfl rfl hc18) ?_
 have:=hy16.toBs.le
 refine st (v:=.slice A11 6 c12) (bs_h Try.underlying33 inf5 (a:=6) (.tmp rfl rfl) .const (by omega) (by omega)) ?_
 refine g_yes (yk 15 true rfl rfl hc18) ?_
 refine st (v:=.string (bstr (((encC (GFrame.mk 1 1 (GViewID.mk 0 0) 0 (GViewID.mk 0 0) (GViewID.mk 0 0) [] 0 [] [] 0 0)).1).take 6))) ((hy16.toBs.take (k:=6) (by omega)).str Try.underlying33 Try.underlying5 Try.underlying9 hs14 (.tmp rfl rfl)) ?_
 refine g_yes (yk 15 true rfl rfl hc18) ?_
 refine st (v:=.bool (decide ((bstr (((encC (GFrame.mk 1 1 (GViewID.mk 0 0) 0 (GViewID.mk 0 0) (GViewID.mk 0 0) [] 0 [] [] 0 0)).1).take 6)) = (⟨#[1,1,0,0,0,0]⟩)))) (x_eqlS (.tmp rfl rfl) .const) ?_
 refine st (v:=.bool (decide ((bstr (((encC (GFrame.mk 1 1 (GViewID.mk 0 0) 0 (GViewID.mk 0 0) (GViewID.mk 0 0) [] 0 [] [] 0 0)).1).take 6)) = (⟨#[1,1,0,0,0,0]⟩)))) (x_pick_t (.tmp rfl (congrArg Value.bool hc18)) (.tmp rfl rfl)) ?_
 refine st (v:=.bool (decide ((bstr (((encC (GFrame.mk 1 1 (GViewID.mk 0 0) 0 (GViewID.mk 0 0) (GViewID.mk 0 0) [] 0 [] [] 0 0)).1).take 6)) = (⟨#[1,1,0,0,0,0]⟩)))) (x_move (.tmp rfl rfl)) ?_
 have hc19:(decide ((bstr (((encC (GFrame.mk 1 1 (GViewID.mk 0 0) 0 (GViewID.mk 0 0) (GViewID.mk 0 0) [] 0 [] [] 0 0)).1).take 6)) = (⟨#[1,1,0,0,0,0]⟩))) = true:=(decide_eq_true (by rw [awk]; exact congrArg bstr awk_take))
 refine st (v:=.bool true) (x_pick_t (.tmp rfl (congrArg Value.bool hc19)) .const) ?_
 refine st (v:=.bool true) (x_assign (.tmp rfl rfl)) ?_
 refine c_nil (n_then (c_ret (leave_ret (res_one (v:=.bool true) rfl (.mk rfl rfl)) ?_)))
 exact ⟨rfl,(hs14.weaken (hle5.trans hle13))⟩
end Go.Proofs.Ytlfihfmmhhcigaa

set_option linter.unusedVariables false
set_option linter.unusedSimpArgs false
namespace Go.Proofs.Ytlfihfmmhhcigaa
open Go Go.FM Go.Proofs
attribute [local irreducible] wpList wpQuiet wpS Code.wp Calls
set_option maxHeartbeats 8000000 in
theorem frameEncodes_spec {H:Hp} {w:World} {L:List Res} (hs:St H w (L)) (f:GFrame) {k_f:List Value} (h_f:kFrame.rep H f k_f) (hsiz:sizeF f ≤ 1048576) (hfb:FB f):Calls Try.prog 4 #[.agg k_f.toArray] w (fun e w' => e = .returned (.bool true)∧St H w' (L)):=by
 obtain ⟨A14,n15,c16,A19,n20,c21,A23,n24,c25,rfl,b1,⟨b2,b3⟩,b4,⟨b5,b6⟩,b7,b8,⟨b9,b10⟩,b11,⟨b12,b13⟩,hl17,b18,hl22,hl26,b27,b28⟩:=h_f
 have:=hl17.len; have:n15 * 48 ≤ 140737488351232:=hl17.bnd; have:=hl17.le
 have:=hl22.len; have:n20 * 24 ≤ 140737488351232:=hl22.bnd; have:=hl22.le
 have:=hl26.len; have:n24 * 32 ≤ 140737488351232:=hl26.bnd; have:=hl26.le
 refine enter (args:=[.agg #[.int .u8 ((f.Kind:Nat):Int),.int .i64 f.From,.int .u64 ((f.ID.N:Nat):Int),.int .i64 f.ID.P,.int .u16 ((f.Set:Nat):Int),.int .u64 ((f.Cur.N:Nat):Int),.int .i64 f.Cur.P,.int .u64 ((f.Prom.N:Nat):Int),.int .i64 f.Prom.P,.slice A14 n15 c16,.int .u64 ((f.Base:Nat):Int),.slice A19 n20 c21,.slice A23 n24 c25,.int .u64 ((f.Ack:Nat):Int),.int .u64 ((f.Safe:Nat):Int)]]) (N:=55) Try.func4 rfl rfl rfl ?_
 refine c_seq (c_region (st_m (m_box (cs:=[.int .u8 ((f.Kind:Nat):Int),.int .i64 f.From,.int .u64 ((f.ID.N:Nat):Int),.int .i64 f.ID.P,.int .u16 ((f.Set:Nat):Int),.int .u64 ((f.Cur.N:Nat):Int),.int .i64 f.Cur.P,.int .u64 ((f.Prom.N:Nat):Int),.int .i64 f.Prom.P,.slice A14 n15 c16,.int .u64 ((f.Base:Nat):Int),.slice A19 n20 c21,.slice A23 n24 c25,.int .u64 ((f.Ack:Nat):Int),.int .u64 ((f.Safe:Nat):Int)]) hs (v:=.agg #[.int .u8 ((f.Kind:Nat):Int),.int .i64 f.From,.int .u64 ((f.ID.N:Nat):Int),.int .i64 f.ID.P,.int .u16 ((f.Set:Nat):Int),.int .u64 ((f.Cur.N:Nat):Int),.int .i64 f.Cur.P,.int .u64 ((f.Prom.N:Nat):Int),.int .i64 f.Prom.P,.slice A14 n15 c16,.int .u64 ((f.Base:Nat):Int),.slice A19 n20 c21,.slice A23 n24 c25,.int .u64 ((f.Ack:Nat):Int),.int .u64 ((f.Safe:Nat):Int)]) (.tmp rfl rfl) rfl) ?_))
 rintro _ w30 ⟨g29,rfl,hs32⟩
 refine st (v:=.bool false) (x_assign .const) ?_
 refine c_nil (n_then (c_seq (c_seq (c_region (st (v:=.agg #[.int .u8 ((f.Kind:Nat):Int),.int .i64 f.From,.int .u64 ((f.ID.N:Nat):Int),.int .i64 f.ID.P,.int .u16 ((f.Set:Nat):Int),.int .u64 ((f.Cur.N:Nat):Int),.int .i64 f.Cur.P,.int .u64 ((f.Prom.N:Nat):Int),.int .i64 f.Prom.P,.slice A14 n15 c16,.int .u64 ((f.Base:Nat):Int),.slice A19 n20 c21,.slice A23 n24 c25,.int .u64 ((f.Ack:Nat):Int),.int .u64 ((f.Safe:Nat):Int)]) (ld30 (cs:=[.int .u8 ((f.Kind:Nat):Int),.int .i64 f.From,.int .u64 ((f.ID.N:Nat):Int),.int .i64 f.ID.P,.int .u16 ((f.Set:Nat):Int),.int .u64 ((f.Cur.N:Nat):Int),.int .i64 f.Cur.P,.int .u64 ((f.Prom.N:Nat):Int),.int .i64 f.Prom.P,.slice A14 n15 c16,.int .u64 ((f.Base:Nat):Int),.slice A19 n20 c21,.slice A23 n24 c25,.int .u64 ((f.Ack:Nat):Int),.int .u64 ((f.Safe:Nat):Int)]) (.tmp rfl rfl) (hs32.at_ 0 rfl (0) rfl) rfl) ?_)))))
 have hr33:kFrame.rep H f [.int .u8 ((f.Kind:Nat):Int),.int .i64 f.From,.int .u64 ((f.ID.N:Nat):Int),.int .i64 f.ID.P,.int .u16 ((f.Set:Nat):Int),.int .u64 ((f.Cur.N:Nat):Int),.int .i64 f.Cur.P,.int .u64 ((f.Prom.N:Nat):Int),.int .i64 f.Prom.P,.slice A14 n15 c16,.int .u64 ((f.Base:Nat):Int),.slice A19 n20 c21,.slice A23 n24 c25,.int .u64 ((f.Ack:Nat):Int),.int .u64 ((f.Safe:Nat):Int)]:=⟨A14,n15,c16,A19,n20,c21,A23,n24,c25,rfl,b1,⟨b2,b3⟩,b4,⟨b5,b6⟩,b7,b8,⟨b9,b10⟩,b11,⟨b12,b13⟩,hl17,b18,hl22,hl26,b27,b28⟩
 refine st_c cb10 .func (evs1 (.tmp rfl rfl)) (great_spec hs32 f hr33 hsiz) ?_
 rintro e w34 ⟨rfl,hs35⟩
 refine ⟨_,rfl,?_⟩
 refine st (v:=.bool (greatF f)) (x_move (.tmp rfl rfl)) ?_
 rcases Bool.eq_false_or_eq_true (greatF f) with hc36 | hc36
 refine g_no (yk 9 true rfl rfl hc36) rfl ?_
 refine g_no (yk 9 true rfl rfl hc36) rfl ?_
 refine st (v:=.bool true) (x_pick_t (.tmp rfl (congrArg Value.bool hc36)) .const) ?_
 refine st (v:=.bool true) (x_move (.tmp rfl rfl)) ?_
 refine st (v:=.bool true) (x_pick_t (.tmp rfl rfl) .const) ?_
 refine c_nil (n_then (c_cond_t (t:=true) (.tmp rfl rfl) rfl ?_))
 refine c_seq (c_region (st_c cb11 .func (evs0 ) (awake_spec hs35  ) ?_))
 rintro e w37 ⟨rfl,hs38⟩
 refine ⟨_,rfl,?_⟩
 refine st (v:=.bool true) (x_assign (.tmp rfl rfl)) ?_
 refine c_nil (n_then (c_ret (r_then (leave_ret (res_one (v:=.bool true) rfl (.mk rfl rfl)) ?_))))
 exact ⟨rfl,hs38.drop⟩
 refine g_yes (yk 9 false rfl rfl hc36) ?_
 refine st_c cb11 .func (evs0 ) (awake_spec hs35  ) ?_
 rintro e w39 ⟨rfl,hs40⟩
 refine ⟨_,rfl,?_⟩
 refine g_yes (yk 9 false rfl rfl hc36) ?_
 refine st (v:=.bool false) (x_not (b:=true) (.tmp rfl rfl)) ?_
 refine st (v:=.bool false) (x_pick_f (.tmp rfl (congrArg Value.bool hc36)) (.tmp rfl rfl)) ?_
 refine st (v:=.bool false) (x_move (.tmp rfl rfl)) ?_
 refine st (v:=.bool false) (x_pick_f (.tmp rfl rfl) .const) ?_
 refine c_nil (n_then (c_cond_f (t:=false) (.tmp rfl rfl) rfl ?_))
 refine c_skip (n_then (c_seq (c_region ?_)))
 have hb_f:=big_of hc36 hsiz hfb
 refine st (v:=.agg #[.int .u8 ((f.Kind:Nat):Int),.int .i64 f.From,.int .u64 ((f.ID.N:Nat):Int),.int .i64 f.ID.P,.int .u16 ((f.Set:Nat):Int),.int .u64 ((f.Cur.N:Nat):Int),.int .i64 f.Cur.P,.int .u64 ((f.Prom.N:Nat):Int),.int .i64 f.Prom.P,.slice A14 n15 c16,.int .u64 ((f.Base:Nat):Int),.slice A19 n20 c21,.slice A23 n24 c25,.int .u64 ((f.Ack:Nat):Int),.int .u64 ((f.Safe:Nat):Int)]) (ld30 (cs:=[.int .u8 ((f.Kind:Nat):Int),.int .i64 f.From,.int .u64 ((f.ID.N:Nat):Int),.int .i64 f.ID.P,.int .u16 ((f.Set:Nat):Int),.int .u64 ((f.Cur.N:Nat):Int),.int .i64 f.Cur.P,.int .u64 ((f.Prom.N:Nat):Int),.int .i64 f.Prom.P,.slice A14 n15 c16,.int .u64 ((f.Base:Nat):Int),.slice A19 n20 c21,.slice A23 n24 c25,.int .u64 ((f.Ack:Nat):Int),.int .u64 ((f.Safe:Nat):Int)]) (.tmp rfl rfl) (hs40.at_ 0 rfl (0) rfl) rfl) ?_
 have hr41:kFrame.rep H f [.int .u8 ((f.Kind:Nat):Int),.int .i64 f.From,.int .u64 ((f.ID.N:Nat):Int),.int .i64 f.ID.P,.int .u16 ((f.Set:Nat):Int),.int .u64 ((f.Cur.N:Nat):Int),.int .i64 f.Cur.P,.int .u64 ((f.Prom.N:Nat):Int),.int .i64 f.Prom.P,.slice A14 n15 c16,.int .u64 ((f.Base:Nat):Int),.slice A19 n20 c21,.slice A23 n24 c25,.int .u64 ((f.Ack:Nat):Int),.int .u64 ((f.Safe:Nat):Int)]:=⟨A14,n15,c16,A19,n20,c21,A23,n24,c25,rfl,b1,⟨b2,b3⟩,b4,⟨b5,b6⟩,b7,b8,⟨b9,b10⟩,b11,⟨b12,b13⟩,hl17,b18,hl22,hl26,b27,b28⟩
 refine st_c cb13 .func (evs1 (.tmp rfl rfl)) (encode_spec hs40 f hr41 (Nat.le_trans hb_f (by decide))) ?_
 rintro e w42 ⟨H44,v46,hle45,rfl,sm49,ok47,hs43⟩
 refine ⟨_,rfl,?_⟩
 refine st (v:=.tuple #[v46,.int .i64 ((encC f).2)]) (x_move (.tmp rfl rfl)) ?_
 refine st (v:=v46) (x_extract (.tmp rfl rfl) (i:=0) rfl) ?_
 refine st (v:=.int .i64 ((encC f).2)) (x_extract (.tmp rfl rfl) (i:=1) rfl) ?_
 refine st (v:=v46) (x_assign (.tmp rfl rfl)) ?_
 refine st (v:=.int .i64 ((encC f).2)) (x_assign (.tmp rfl rfl)) ?_
 refine c_nil (n_then (c_seq (c_seq (c_region (st (v:=.agg #[.int .u8 ((f.Kind:Nat):Int),.int .i64 f.From,.int .u64 ((f.ID.N:Nat):Int),.int .i64 f.ID.P,.int .u16 ((f.Set:Nat):Int),.int .u64 ((f.Cur.N:Nat):Int),.int .i64 f.Cur.P,.int .u64 ((f.Prom.N:Nat):Int),.int .i64 f.Prom.P,.slice A14 n15 c16,.int .u64 ((f.Base:Nat):Int),.slice A19 n20 c21,.slice A23 n24 c25,.int .u64 ((f.Ack:Nat):Int),.int .u64 ((f.Safe:Nat):Int)]) (ld30 (cs:=[.int .u8 ((f.Kind:Nat):Int),.int .i64 f.From,.int .u64 ((f.ID.N:Nat):Int),.int .i64 f.ID.P,.int .u16 ((f.Set:Nat):Int),.int .u64 ((f.Cur.N:Nat):Int),.int .i64 f.Cur.P,.int .u64 ((f.Prom.N:Nat):Int),.int .i64 f.Prom.P,.slice A14 n15 c16,.int .u64 ((f.Base:Nat):Int),.slice A19 n20 c21,.slice A23 n24 c25,.int .u64 ((f.Ack:Nat):Int),.int .u64 ((f.Safe:Nat):Int)]) (.tmp rfl rfl) (hs43.at_ 1 rfl (0) rfl) rfl) ?_)))))
 have hr50:kFrame.rep H44 f [.int .u8 ((f.Kind:Nat):Int),.int .i64 f.From,.int .u64 ((f.ID.N:Nat):Int),.int .i64 f.ID.P,.int .u16 ((f.Set:Nat):Int),.int .u64 ((f.Cur.N:Nat):Int),.int .i64 f.Cur.P,.int .u64 ((f.Prom.N:Nat):Int),.int .i64 f.Prom.P,.slice A14 n15 c16,.int .u64 ((f.Base:Nat):Int),.slice A19 n20 c21,.slice A23 n24 c25,.int .u64 ((f.Ack:Nat):Int),.int .u64 ((f.Safe:Nat):Int)]:=⟨A14,n15,c16,A19,n20,c21,A23,n24,c25,rfl,b1,⟨b2,b3⟩,b4,⟨b5,b6⟩,b7,b8,⟨b9,b10⟩,b11,⟨b12,b13⟩,(hl17.mono hle45),b18,(hl22.mono hle45),(hl26.mono hle45),b27,b28⟩
 refine st_c cb12 .func (evs1 (.tmp rfl rfl)) (rform_frame hs43 f hr50 ) ?_
 rintro e w51 ⟨rfl,hs52⟩
 refine ⟨_,rfl,?_⟩
 refine st (v:=.bool (!(formC f))) (x_not (.tmp rfl rfl)) ?_
 refine c_nil (n_then ?_)
 rcases Bool.eq_false_or_eq_true (formC f) with hc53 | hc53
 refine c_cond_f (t:=false) (.tmp rfl (congrArg Value.bool (by rw [hc53]; rfl))) rfl ?_
 refine c_skip (n_then (c_seq (c_region ?_)))
 have hec:=enc_is hc53 hb_f hfb; have hde:=dec_is hc53 hb_f hfb; have hel:=encC_len f
 obtain ⟨H54,A55,c56,hle57,hs58,rfl,hp59⟩:=hs52.freezeBs ok47 sm49 (by omega)
 have hy60:By H54 A55 (((encC f).1).length) c56 ((encC f).1):=⟨hp59,by omega⟩
 skip
 refine st (v:=.slice A55 (((encC f).1).length) c56) (x_move (.tmp rfl rfl)) ?_
 refine st_c cb15 .func (evs1 (.tmp rfl rfl)) (decode_spec hs58 ((encC f).1) hy60 ) ?_
 rintro e w61 ⟨H63,cs65,hle64,rfl,hr66,hs62⟩
 obtain ⟨A80,n81,c82,A85,n86,c87,A89,n90,c91,rfl,b67,⟨b68,b69⟩,b70,⟨b71,b72⟩,b73,b74,⟨b75,b76⟩,b77,⟨b78,b79⟩,hl83,b84,hl88,hl92,b93,b94⟩:=hr66
 have:=hl83.len; have:n81 * 48 ≤ 140737488351232:=hl83.bnd; have:=hl83.le
 have:=hl88.len; have:n86 * 24 ≤ 140737488351232:=hl88.bnd; have:=hl88.le
 have:=hl92.len; have:n90 * 32 ≤ 140737488351232:=hl92.bnd; have:=hl92.le
 refine ⟨_,rfl,?_⟩
 refine st (v:=.tuple #[.agg #[.int .u8 (((((decA ((encC f).1)).1).Kind):Nat):Int),.int .i64 (((decA ((encC f).1)).1).From),.int .u64 ((((((decA ((encC f).1)).1).ID).N):Nat):Int),.int .i64 ((((decA ((encC f).1)).1).ID).P),.int .u16 (((((decA ((encC f).1)).1).Set):Nat):Int),.int .u64 ((((((decA ((encC f).1)).1).Cur).N):Nat):Int),.int .i64 ((((decA ((encC f).1)).1).Cur).P),.int .u64 ((((((decA ((encC f).1)).1).Prom).N):Nat):Int),.int .i64 ((((decA ((encC f).1)).1).Prom).P),.slice A80 n81 c82,.int .u64 (((((decA ((encC f).1)).1).Base):Nat):Int),.slice A85 n86 c87,.slice A89 n90 c91,.int .u64 (((((decA ((encC f).1)).1).Ack):Nat):Int),.int .u64 (((((decA ((encC f).1)).1).Safe):Nat):Int)],.int .i64 ((decA ((encC f).1)).2)]) (x_move (.tmp rfl rfl)) ?_
 refine st (v:=.agg #[.int .u8 (((((decA ((encC f).1)).1).Kind):Nat):Int),.int .i64 (((decA ((encC f).1)).1).From),.int .u64 ((((((decA ((encC f).1)).1).ID).N):Nat):Int),.int .i64 ((((decA ((encC f).1)).1).ID).P),.int .u16 (((((decA ((encC f).1)).1).Set):Nat):Int),.int .u64 ((((((decA ((encC f).1)).1).Cur).N):Nat):Int),.int .i64 ((((decA ((encC f).1)).1).Cur).P),.int .u64 ((((((decA ((encC f).1)).1).Prom).N):Nat):Int),.int .i64 ((((decA ((encC f).1)).1).Prom).P),.slice A80 n81 c82,.int .u64 (((((decA ((encC f).1)).1).Base):Nat):Int),.slice A85 n86 c87,.slice A89 n90 c91,.int .u64 (((((decA ((encC f).1)).1).Ack):Nat):Int),.int .u64 (((((decA ((encC f).1)).1).Safe):Nat):Int)]) (x_extract (.tmp rfl rfl) (i:=0) rfl) ?_
 refine st (v:=.int .i64 ((decA ((encC f).1)).2)) (x_extract (.tmp rfl rfl) (i:=1) rfl) ?_
 refine st_m (al30 (cs:=[.int .u8 0,.int .i64 0,.int .u64 0,.int .i64 0,.int .u16 0,.int .u64 0,.int .i64 0,.int .u64 0,.int .i64 0,.slice none 0 0,.int .u64 0,.slice none 0 0,.slice none 0 0,.int .u64 0,.int .u64 0]) hs62 rfl) ?_
 rintro _ w96 ⟨g95,rfl,hs98⟩
 refine st_m0 (sto30 (cs':=[.int .u8 (((((decA ((encC f).1)).1).Kind):Nat):Int),.int .i64 (((decA ((encC f).1)).1).From),.int .u64 ((((((decA ((encC f).1)).1).ID).N):Nat):Int),.int .i64 ((((decA ((encC f).1)).1).ID).P),.int .u16 (((((decA ((encC f).1)).1).Set):Nat):Int),.int .u64 ((((((decA ((encC f).1)).1).Cur).N):Nat):Int),.int .i64 ((((decA ((encC f).1)).1).Cur).P),.int .u64 ((((((decA ((encC f).1)).1).Prom).N):Nat):Int),.int .i64 ((((decA ((encC f).1)).1).Prom).P),.slice A80 n81 c82,.int .u64 (((((decA ((encC f).1)).1).Base):Nat):Int),.slice A85 n86 c87,.slice A89 n90 c91,.int .u64 (((((decA ((encC f).1)).1).Ack):Nat):Int),.int .u64 (((((decA ((encC f).1)).1).Safe):Nat):Int)]) (i:=0) hs98 (v:=.agg #[.int .u8 (((((decA ((encC f).1)).1).Kind):Nat):Int),.int .i64 (((decA ((encC f).1)).1).From),.int .u64 ((((((decA ((encC f).1)).1).ID).N):Nat):Int),.int .i64 ((((decA ((encC f).1)).1).ID).P),.int .u16 (((((decA ((encC f).1)).1).Set):Nat):Int),.int .u64 ((((((decA ((encC f).1)).1).Cur).N):Nat):Int),.int .i64 ((((decA ((encC f).1)).1).Cur).P),.int .u64 ((((((decA ((encC f).1)).1).Prom).N):Nat):Int),.int .i64 ((((decA ((encC f).1)).1).Prom).P),.slice A80 n81 c82,.int .u64 (((((decA ((encC f).1)).1).Base):Nat):Int),.slice A85 n86 c87,.slice A89 n90 c91,.int .u64 (((((decA ((encC f).1)).1).Ack):Nat):Int),.int .u64 (((((decA ((encC f).1)).1).Safe):Nat):Int)]) (.tmp rfl rfl) (.tmp rfl rfl) rfl (Nat.le_of_ble_eq_true rfl) (oneA rfl) rfl) ?_
 rintro w99 hs101
 refine st (v:=.int .i64 ((decA ((encC f).1)).2)) (x_assign (.tmp rfl rfl)) ?_
 refine c_nil (n_then (c_seq (t_region (L:=obj g95 30 [.int .u8 (((((decA ((encC f).1)).1).Kind):Nat):Int),.int .i64 (((decA ((encC f).1)).1).From),.int .u64 ((((((decA ((encC f).1)).1).ID).N):Nat):Int),.int .i64 ((((decA ((encC f).1)).1).ID).P),.int .u16 (((((decA ((encC f).1)).1).Set):Nat):Int),.int .u64 ((((((decA ((encC f).1)).1).Cur).N):Nat):Int),.int .i64 ((((decA ((encC f).1)).1).Cur).P),.int .u64 ((((((decA ((encC f).1)).1).Prom).N):Nat):Int),.int .i64 ((((decA ((encC f).1)).1).Prom).P),.slice A80 n81 c82,.int .u64 (((((decA ((encC f).1)).1).Base):Nat):Int),.slice A85 n86 c87,.slice A89 n90 c91,.int .u64 (((((decA ((encC f).1)).1).Ack):Nat):Int),.int .u64 (((((decA ((encC f).1)).1).Safe):Nat):Int)]::obj g29 30 [.int .u8 ((f.Kind:Nat):Int),.int .i64 f.From,.int .u64 ((f.ID.N:Nat):Int),.int .i64 f.ID.P,.int .u16 ((f.Set:Nat):Int),.int .u64 ((f.Cur.N:Nat):Int),.int .i64 f.Cur.P,.int .u64 ((f.Prom.N:Nat):Int),.int .i64 f.Prom.P,.slice A14 n15 c16,.int .u64 ((f.Base:Nat):Int),.slice A19 n20 c21,.slice A23 n24 c25,.int .u64 ((f.Ack:Nat):Int),.int .u64 ((f.Safe:Nat):Int)]::L) (L':=obj g95 30 [.int .u8 (((((decA ((encC f).1)).1).Kind):Nat):Int),.int .i64 (((decA ((encC f).1)).1).From),.int .u64 ((((((decA ((encC f).1)).1).ID).N):Nat):Int),.int .i64 ((((decA ((encC f).1)).1).ID).P),.int .u16 (((((decA ((encC f).1)).1).Set):Nat):Int),.int .u64 ((((((decA ((encC f).1)).1).Cur).N):Nat):Int),.int .i64 ((((decA ((encC f).1)).1).Cur).P),.int .u64 ((((((decA ((encC f).1)).1).Prom).N):Nat):Int),.int .i64 ((((decA ((encC f).1)).1).Prom).P),.slice A80 n81 c82,.int .u64 (((((decA ((encC f).1)).1).Base):Nat):Int),.slice A85 n86 c87,.slice A89 n90 c91,.int .u64 (((((decA ((encC f).1)).1).Ack):Nat):Int),.int .u64 (((((decA ((encC f).1)).1).Safe):Nat):Int)]::obj g29 30 [.int .u8 ((f.Kind:Nat):Int),.int .i64 f.From,.int .u64 ((f.ID.N:Nat):Int),.int .i64 f.ID.P,.int .u16 ((f.Set:Nat):Int),.int .u64 ((f.Cur.N:Nat):Int),.int .i64 f.Cur.P,.int .u64 ((f.Prom.N:Nat):Int),.int .i64 f.Prom.P,.slice A14 n15 c16,.int .u64 ((f.Base:Nat):Int),.slice A19 n20 c21,.slice A23 n24 c25,.int .u64 ((f.Ack:Nat):Int),.int .u64 ((f.Safe:Nat):Int)]::L) (Z:=[]) (F:=[]) (pl:=(.q 0 (.q 1 (.q 2 (.q 3 (.q 4 (.q 5 (.e 6 (.q 7 (.q 8 (.q 9 (.q 10 (.q 11 (.q 12 (.q 13 (.q 14 (.q 15 (.q 16 (.e 17 (.q 18 (.q 19 .done))))))))))))))))))))) mixed hs101 (fun u hu => hu) (by kernel_rfl) ?_)))
 intro w102 hs103
 refine t_st (k:=0) (v:=.int .i64 ((encC f).2)) rfl rfl (fun w hs => (x_move (.tmp rfl rfl))) ?_
 refine t_st (k:=1) (v:=.bool (decide ((((encC f).2):Int) = 0))) rfl rfl (fun w hs => (x_eql (k:=.i64) (a:=((encC f).2)) (b:=0) (.tmp rfl rfl) .const)) ?_
 refine t_st (k:=2) (v:=.bool (decide ((((encC f).2):Int) = 0))) rfl rfl (fun w hs => (x_move (.tmp rfl rfl))) ?_
 have hc104:(decide ((((encC f).2):Int) = 0)) = true:=(decide_eq_true (by rw [hec]))
 refine t_yes (k:=3) (v:=.slice A55 (((encC f).1).length) c56) rfl rfl (yk 38 true rfl rfl hc104) (fun w hs => (x_move (.tmp rfl rfl))) ?_
 refine t_yes (k:=4) (v:=.string (bstr ((encC f).1))) rfl rfl (yk 38 true rfl rfl hc104) (fun w hs => ((hy60.toBs.mono hle64).str Try.underlying33 Try.underlying5 Try.underlying9 hs (.tmp rfl rfl))) ?_
 refine t_yes (k:=5) (v:=.agg #[.int .u8 ((f.Kind:Nat):Int),.int .i64 f.From,.int .u64 ((f.ID.N:Nat):Int),.int .i64 f.ID.P,.int .u16 ((f.Set:Nat):Int),.int .u64 ((f.Cur.N:Nat):Int),.int .i64 f.Cur.P,.int .u64 ((f.Prom.N:Nat):Int),.int .i64 f.Prom.P,.slice A14 n15 c16,.int .u64 ((f.Base:Nat):Int),.slice A19 n20 c21,.slice A23 n24 c25,.int .u64 ((f.Ack:Nat):Int),.int .u64 ((f.Safe:Nat):Int)]) rfl rfl (yk 38 true rfl rfl hc104) (fun w hs => (ld30 (cs:=[.int .u8 ((f.Kind:Nat):Int),.int .i64 f.From,.int .u64 ((f.ID.N:Nat):Int),.int .i64 f.ID.P,.int .u16 ((f.Set:Nat):Int),.int .u64 ((f.Cur.N:Nat):Int),.int .i64 f.Cur.P,.int .u64 ((f.Prom.N:Nat):Int),.int .i64 f.Prom.P,.slice A14 n15 c16,.int .u64 ((f.Base:Nat):Int),.slice A19 n20 c21,.slice A23 n24 c25,.int .u64 ((f.Ack:Nat):Int),.int .u64 ((f.Safe:Nat):Int)]) (.tmp rfl rfl) (hs.at_ 1 rfl (0) rfl) rfl)) ?_
 refine t_eff (k:=6) rfl ?_
 refine g_yes (yk 38 true rfl rfl hc104) ?_
 have hr105:kFrame.rep H63 f [.int .u8 ((f.Kind:Nat):Int),.int .i64 f.From,.int .u64 ((f.ID.N:Nat):Int),.int .i64 f.ID.P,.int .u16 ((f.Set:Nat):Int),.int .u64 ((f.Cur.N:Nat):Int),.int .i64 f.Cur.P,.int .u64 ((f.Prom.N:Nat):Int),.int .i64 f.Prom.P,.slice A14 n15 c16,.int .u64 ((f.Base:Nat):Int),.slice A19 n20 c21,.slice A23 n24 c25,.int .u64 ((f.Ack:Nat):Int),.int .u64 ((f.Safe:Nat):Int)]:=⟨A14,n15,c16,A19,n20,c21,A23,n24,c25,rfl,b1,⟨b2,b3⟩,b4,⟨b5,b6⟩,b7,b8,⟨b9,b10⟩,b11,⟨b12,b13⟩,(((hl17.mono hle45).mono hle57).mono hle64),b18,(((hl22.mono hle45).mono hle57).mono hle64),(((hl26.mono hle45).mono hle57).mono hle64),b27,b28⟩
 refine st_c cb16 .func (evs1 (.tmp rfl rfl)) (rencode_spec hs103 f hr105 (Nat.le_trans hb_f (by decide)) (form_kind hc53).1 (form_kind hc53).2) ?_
 rintro e w106 ⟨H108,v110,hle109,rfl,sm113,ok111,hs107⟩
 refine ⟨_,rfl,?_⟩
 refine t_on (S':=fun u => St H108 u (row 5 1 v110 ((seal_ (bodyE f)).length) ((seal_ (bodyE f)).map encB)::obj g95 30 [.int .u8 (((((decA ((encC f).1)).1).Kind):Nat):Int),.int .i64 (((decA ((encC f).1)).1).From),.int .u64 ((((((decA ((encC f).1)).1).ID).N):Nat):Int),.int .i64 ((((decA ((encC f).1)).1).ID).P),.int .u16 (((((decA ((encC f).1)).1).Set):Nat):Int),.int .u64 ((((((decA ((encC f).1)).1).Cur).N):Nat):Int),.int .i64 ((((decA ((encC f).1)).1).Cur).P),.int .u64 ((((((decA ((encC f).1)).1).Prom).N):Nat):Int),.int .i64 ((((decA ((encC f).1)).1).Prom).P),.slice A80 n81 c82,.int .u64 (((((decA ((encC f).1)).1).Base):Nat):Int),.slice A85 n86 c87,.slice A89 n90 c91,.int .u64 (((((decA ((encC f).1)).1).Ack):Nat):Int),.int .u64 (((((decA ((encC f).1)).1).Safe):Nat):Int)]::obj g29 30 [.int .u8 ((f.Kind:Nat):Int),.int .i64 f.From,.int .u64 ((f.ID.N:Nat):Int),.int .i64 f.ID.P,.int .u16 ((f.Set:Nat):Int),.int .u64 ((f.Cur.N:Nat):Int),.int .i64 f.Cur.P,.int .u64 ((f.Prom.N:Nat):Int),.int .i64 f.Prom.P,.slice A14 n15 c16,.int .u64 ((f.Base:Nat):Int),.slice A19 n20 c21,.slice A23 n24 c25,.int .u64 ((f.Ack:Nat):Int),.int .u64 ((f.Safe:Nat):Int)]::L)) (fun u hu => hu.drop.weaken hle109) hs107 ?_
 refine t_yes (k:=7) (v:=.string (bstr (seal_ (bodyE f)))) rfl rfl (yk 38 true rfl rfl hc104) (fun w hs => (hs.rowStr Try.underlying33 Try.underlying5 Try.underlying9 0 rfl ok111 (.tmp rfl rfl))) ?_
 refine t_yes (k:=8) (v:=.bool (decide ((bstr ((encC f).1)) = (bstr (seal_ (bodyE f)))))) rfl rfl (yk 38 true rfl rfl hc104) (fun w hs => (x_eqlS (.tmp rfl rfl) (.tmp rfl rfl))) ?_
 refine t_st (k:=9) (v:=.bool (decide ((bstr ((encC f).1)) = (bstr (seal_ (bodyE f)))))) rfl rfl (fun w hs => (x_pick_t (.tmp rfl (congrArg Value.bool hc104)) (.tmp rfl rfl))) ?_
 refine t_st (k:=10) (v:=.bool (decide ((bstr ((encC f).1)) = (bstr (seal_ (bodyE f)))))) rfl rfl (fun w hs => (x_move (.tmp rfl rfl))) ?_
 have hc114:(decide ((bstr ((encC f).1)) = (bstr (seal_ (bodyE f))))) = true:=(decide_eq_true (by rw [hec]))
 refine t_yes (k:=11) (v:=.int .i64 ((decA ((encC f).1)).2)) rfl rfl (yk 46 true rfl rfl hc114) (fun w hs => (x_move (.tmp rfl rfl))) ?_
 refine t_yes (k:=12) (v:=.bool (decide ((((decA ((encC f).1)).2):Int) = 0))) rfl rfl (yk 46 true rfl rfl hc114) (fun w hs => (x_eql (k:=.i64) (a:=((decA ((encC f).1)).2)) (b:=0) (.tmp rfl rfl) .const)) ?_
 refine t_st (k:=13) (v:=.bool (decide ((((decA ((encC f).1)).2):Int) = 0))) rfl rfl (fun w hs => (x_pick_t (.tmp rfl (congrArg Value.bool hc114)) (.tmp rfl rfl))) ?_
 refine t_st (k:=14) (v:=.bool (decide ((((decA ((encC f).1)).2):Int) = 0))) rfl rfl (fun w hs => (x_move (.tmp rfl rfl))) ?_
 have hc115:(decide ((((decA ((encC f).1)).2):Int) = 0)) = true:=(decide_eq_true (by rw [hde]))
 refine t_yes (k:=15) (v:=.agg #[.int .u8 (((((decA ((encC f).1)).1).Kind):Nat):Int),.int .i64 (((decA ((encC f).1)).1).From),.int .u64 ((((((decA ((encC f).1)).1).ID).N):Nat):Int),.int .i64 ((((decA ((encC f).1)).1).ID).P),.int .u16 (((((decA ((encC f).1)).1).Set):Nat):Int),.int .u64 ((((((decA ((encC f).1)).1).Cur).N):Nat):Int),.int .i64 ((((decA ((encC f).1)).1).Cur).P),.int .u64 ((((((decA ((encC f).1)).1).Prom).N):Nat):Int),.int .i64 ((((decA ((encC f).1)).1).Prom).P),.slice A80 n81 c82,.int .u64 (((((decA ((encC f).1)).1).Base):Nat):Int),.slice A85 n86 c87,.slice A89 n90 c91,.int .u64 (((((decA ((encC f).1)).1).Ack):Nat):Int),.int .u64 (((((decA ((encC f).1)).1).Safe):Nat):Int)]) rfl rfl (yk 50 true rfl rfl hc115) (fun w hs => (ld30 (cs:=[.int .u8 (((((decA ((encC f).1)).1).Kind):Nat):Int),.int .i64 (((decA ((encC f).1)).1).From),.int .u64 ((((((decA ((encC f).1)).1).ID).N):Nat):Int),.int .i64 ((((decA ((encC f).1)).1).ID).P),.int .u16 (((((decA ((encC f).1)).1).Set):Nat):Int),.int .u64 ((((((decA ((encC f).1)).1).Cur).N):Nat):Int),.int .i64 ((((decA ((encC f).1)).1).Cur).P),.int .u64 ((((((decA ((encC f).1)).1).Prom).N):Nat):Int),.int .i64 ((((decA ((encC f).1)).1).Prom).P),.slice A80 n81 c82,.int .u64 (((((decA ((encC f).1)).1).Base):Nat):Int),.slice A85 n86 c87,.slice A89 n90 c91,.int .u64 (((((decA ((encC f).1)).1).Ack):Nat):Int),.int .u64 (((((decA ((encC f).1)).1).Safe):Nat):Int)]) (.tmp rfl rfl) (hs.at_ 1 rfl (0) rfl) rfl)) ?_
 refine t_yes (k:=16) (v:=.agg #[.int .u8 ((f.Kind:Nat):Int),.int .i64 f.From,.int .u64 ((f.ID.N:Nat):Int),.int .i64 f.ID.P,.int .u16 ((f.Set:Nat):Int),.int .u64 ((f.Cur.N:Nat):Int),.int .i64 f.Cur.P,.int .u64 ((f.Prom.N:Nat):Int),.int .i64 f.Prom.P,.slice A14 n15 c16,.int .u64 ((f.Base:Nat):Int),.slice A19 n20 c21,.slice A23 n24 c25,.int .u64 ((f.Ack:Nat):Int),.int .u64 ((f.Safe:Nat):Int)]) rfl rfl (yk 50 true rfl rfl hc115) (fun w hs => (ld30 (cs:=[.int .u8 ((f.Kind:Nat):Int),.int .i64 f.From,.int .u64 ((f.ID.N:Nat):Int),.int .i64 f.ID.P,.int .u16 ((f.Set:Nat):Int),.int .u64 ((f.Cur.N:Nat):Int),.int .i64 f.Cur.P,.int .u64 ((f.Prom.N:Nat):Int),.int .i64 f.Prom.P,.slice A14 n15 c16,.int .u64 ((f.Base:Nat):Int),.slice A19 n20 c21,.slice A23 n24 c25,.int .u64 ((f.Ack:Nat):Int),.int .u64 ((f.Safe:Nat):Int)]) (.tmp rfl rfl) (hs.at_ 2 rfl (0) rfl) rfl)) ?_
 refine t_eff (k:=17) rfl ?_
 refine g_yes (yk 50 true rfl rfl hc115) ?_
 have hr116:kFrame.rep H108 ((decA ((encC f).1)).1) [.int .u8 (((((decA ((encC f).1)).1).Kind):Nat):Int),.int .i64 (((decA ((encC f).1)).1).From),.int .u64 ((((((decA ((encC f).1)).1).ID).N):Nat):Int),.int .i64 ((((decA ((encC f).1)).1).ID).P),.int .u16 (((((decA ((encC f).1)).1).Set):Nat):Int),.int .u64 ((((((decA ((encC f).1)).1).Cur).N):Nat):Int),.int .i64 ((((decA ((encC f).1)).1).Cur).P),.int .u64 ((((((decA ((encC f).1)).1).Prom).N):Nat):Int),.int .i64 ((((decA ((encC f).1)).1).Prom).P),.slice A80 n81 c82,.int .u64 (((((decA ((encC f).1)).1).Base):Nat):Int),.slice A85 n86 c87,.slice A89 n90 c91,.int .u64 (((((decA ((encC f).1)).1).Ack):Nat):Int),.int .u64 (((((decA ((encC f).1)).1).Safe):Nat):Int)]:=⟨A80,n81,c82,A85,n86,c87,A89,n90,c91,rfl,b67,⟨b68,b69⟩,b70,⟨b71,b72⟩,b73,b74,⟨b75,b76⟩,b77,⟨b78,b79⟩,(hl83.mono hle109),b84,(hl88.mono hle109),(hl92.mono hle109),b93,b94⟩
 have hr117:kFrame.rep H108 f [.int .u8 ((f.Kind:Nat):Int),.int .i64 f.From,.int .u64 ((f.ID.N:Nat):Int),.int .i64 f.ID.P,.int .u16 ((f.Set:Nat):Int),.int .u64 ((f.Cur.N:Nat):Int),.int .i64 f.Cur.P,.int .u64 ((f.Prom.N:Nat):Int),.int .i64 f.Prom.P,.slice A14 n15 c16,.int .u64 ((f.Base:Nat):Int),.slice A19 n20 c21,.slice A23 n24 c25,.int .u64 ((f.Ack:Nat):Int),.int .u64 ((f.Safe:Nat):Int)]:=⟨A14,n15,c16,A19,n20,c21,A23,n24,c25,rfl,b1,⟨b2,b3⟩,b4,⟨b5,b6⟩,b7,b8,⟨b9,b10⟩,b11,⟨b12,b13⟩,((((hl17.mono hle45).mono hle57).mono hle64).mono hle109),b18,((((hl22.mono hle45).mono hle57).mono hle64).mono hle109),((((hl26.mono hle45).mono hle57).mono hle64).mono hle109),b27,b28⟩
 refine st_c cb14 .func (evs2 (.tmp rfl rfl) (.tmp rfl rfl)) (same_frame hs107 ((decA ((encC f).1)).1) hr116 f hr117 ) ?_
 rintro e w118 ⟨rfl,hs119⟩
 refine ⟨_,rfl,?_⟩
 refine t_on (S':=fun u => St H108 u (row 5 1 v110 ((seal_ (bodyE f)).length) ((seal_ (bodyE f)).map encB)::obj g95 30 [.int .u8 (((((decA ((encC f).1)).1).Kind):Nat):Int),.int .i64 (((decA ((encC f).1)).1).From),.int .u64 ((((((decA ((encC f).1)).1).ID).N):Nat):Int),.int .i64 ((((decA ((encC f).1)).1).ID).P),.int .u16 (((((decA ((encC f).1)).1).Set):Nat):Int),.int .u64 ((((((decA ((encC f).1)).1).Cur).N):Nat):Int),.int .i64 ((((decA ((encC f).1)).1).Cur).P),.int .u64 ((((((decA ((encC f).1)).1).Prom).N):Nat):Int),.int .i64 ((((decA ((encC f).1)).1).Prom).P),.slice A80 n81 c82,.int .u64 (((((decA ((encC f).1)).1).Base):Nat):Int),.slice A85 n86 c87,.slice A89 n90 c91,.int .u64 (((((decA ((encC f).1)).1).Ack):Nat):Int),.int .u64 (((((decA ((encC f).1)).1).Safe):Nat):Int)]::obj g29 30 [.int .u8 ((f.Kind:Nat):Int),.int .i64 f.From,.int .u64 ((f.ID.N:Nat):Int),.int .i64 f.ID.P,.int .u16 ((f.Set:Nat):Int),.int .u64 ((f.Cur.N:Nat):Int),.int .i64 f.Cur.P,.int .u64 ((f.Prom.N:Nat):Int),.int .i64 f.Prom.P,.slice A14 n15 c16,.int .u64 ((f.Base:Nat):Int),.slice A19 n20 c21,.slice A23 n24 c25,.int .u64 ((f.Ack:Nat):Int),.int .u64 ((f.Safe:Nat):Int)]::L)) (fun u hu => hu) hs119 ?_
 refine t_st (k:=18) (v:=.bool (decide (((decA ((encC f).1)).1) = f))) rfl rfl (fun w hs => (x_pick_t (.tmp rfl (congrArg Value.bool hc115)) (.tmp rfl rfl))) ?_
 refine t_st (k:=19) (v:=.bool (decide (((decA ((encC f).1)).1) = f))) rfl rfl (fun w hs => (x_assign (.tmp rfl rfl))) ?_
 refine t_nil ?_
 refine n_then (c_ret (leave_ret (res_one (v:=.bool (decide (((decA ((encC f).1)).1) = f))) rfl (.mk rfl rfl)) ?_))
 have hyes:(decide (((decA ((encC f).1)).1) = f)) = true:=(decide_eq_true (by rw [hde]))
 rw [hyes]
 exact ⟨rfl,(hs119.drop.drop.drop.weaken (((hle45.trans hle57).trans hle64).trans hle109))⟩
 refine c_cond_t (t:=true) (.tmp rfl (congrArg Value.bool (by rw [hc53]; rfl))) rfl ?_
 refine c_seq (c_region (st (v:=.int .i64 ((encC f).2)) (x_move (.tmp rfl rfl)) ?_))
 refine st (v:=.bool (decide ((((encC f).2):Int) = 3))) (x_eql (k:=.i64) (a:=((encC f).2)) (b:=3) (.tmp rfl rfl) .const) ?_
 refine st (v:=.bool (decide ((((encC f).2):Int) = 3))) (x_move (.tmp rfl rfl)) ?_
 have hc120:(decide ((((encC f).2):Int) = 3)) = true:=(decide_eq_true (by rw [encC_no hc53]))
 refine g_yes (yk 26 true rfl rfl hc120) ?_
 refine st (v:=v46) (x_move (.tmp rfl rfl)) ?_
 refine g_yes (yk 26 true rfl rfl hc120) ?_
 obtain ⟨A121,c122,hv123,hc124⟩:=ok47.slice
 refine st (v:=.int .i64 ((((encC f).1).length:Nat):Int)) (x_len (n:=((encC f).1).length) Try.underlying33 (.tmp rfl hv123)) ?_
 refine g_yes (yk 26 true rfl rfl hc120) ?_
 refine st (v:=.bool (decide ((((((encC f).1).length:Nat):Int):Int) = 0))) (x_eql (k:=.i64) (a:=((((encC f).1).length:Nat):Int)) (b:=0) (.tmp rfl rfl) .const) ?_
 refine st (v:=.bool (decide ((((((encC f).1).length:Nat):Int):Int) = 0))) (x_pick_t (.tmp rfl (congrArg Value.bool hc120)) (.tmp rfl rfl)) ?_
 refine st (v:=.bool (decide ((((((encC f).1).length:Nat):Int):Int) = 0))) (x_assign (.tmp rfl rfl)) ?_
 refine c_nil (n_then (c_ret (r_then (leave_ret (res_one (v:=.bool (decide ((((((encC f).1).length:Nat):Int):Int) = 0))) rfl (.mk rfl rfl)) ?_))))
 have hyes:(decide ((((((encC f).1).length:Nat):Int):Int) = 0)) = true:=(decide_eq_true (by rw [encC_no hc53]; rfl))
 rw [hyes]
 exact ⟨rfl,(hs52.drop.drop.weaken hle45)⟩
end Go.Proofs.Ytlfihfmmhhcigaa
