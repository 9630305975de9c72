/- Steps of the proofs over the functions of this seat, printed by a program (gen.py) and checked by Lean. -/
import Derived.Test.YtcccaihjgoaehaaDoorW01
import Derived.Test.YtcccaihjgoaehaaDoorW00
import Derived.Test.YtcccaihjgoaehaaDoorW03
import Derived.Test.YtcccaihjgoaehaaDoorW10
set_option linter.unusedVariables false
set_option linter.unusedSimpArgs false
namespace Go.Proofs.YtcccaihjgoaehaaDoor
open Go Go.FM Go.Proofs
attribute [local irreducible] wpList wpQuiet wpS Code.wp Calls
theorem prom_mm {H:Hp} {w:World} {L:List Res} {x:MM} (hs:St H w (MM.res 78 81 37 x ++ L)) (ok:x.ok H):Calls Tryd.prog 19 #[.pointer (some ⟨x.g,0,none⟩)] w (fun e w' => ∃ (cs0:List Value),e = .returned (.agg cs0.toArray)∧kViewID.rep H x.m.prom cs0∧St H w' (MM.res 78 81 37 x ++ L)):=by
  obtain ⟨⟨n,self,cur,prom,high,prop,jl,os⟩,g,gp,A,jn,jc,sv,sc⟩:=x
  cases prop with
  | none => exact prom_X (m_prop:=none) hs ok.b
  | some p => exact prom_X (m_prop:=some p) hs ok.b
theorem opn_mm {H:Hp} {w:World} {L:List Res} {x:MM} (hs:St H w (MM.res 78 81 37 x ++ L)) (ok:x.ok H):Calls Tryd.prog 15 #[.pointer (some ⟨x.g,0,none⟩)] w (fun e w' => e = .returned (.bool x.m.opn)∧St H w' (MM.res 78 81 37 x ++ L)):=by
  obtain ⟨⟨n,self,cur,prom,high,prop,jl,os⟩,g,gp,A,jn,jc,sv,sc⟩:=x
  cases prop with
  | none => exact opn_X (m_prop:=none) hs ok.b
  | some p => exact opn_X (m_prop:=some p) hs ok.b
theorem tick_mm {H:Hp} {w:World} {L:List Res} {x:MM} (hs:St H w (MM.res 78 81 37 x ++ L)) (ok:x.ok H) (est:Nat) (b_est:est < 65536) (sx:GState) {k_sx:List Value} (h_sx:kState.rep H sx k_sx) (hfl:0 ≤ sx.Floor∧sx.Floor ≤ 1073741824) (htab:Tab H):Calls Tryd.prog 12 #[.pointer (some ⟨x.g,0,none⟩),.int .u16 ((est:Nat):Int),.agg k_sx.toArray] w (fun e w' => ∃ (H':Hp) (v0:Value) (cs0:List Value) (iv1:Value) (x':MM),H.le H'∧e = .returned (.tuple #[v0,iv1])∧RowOk kOut.sz v0 ((MB.tick x.m est sx).2.1).length cs0∧kOut.toKn.rows H' ((MB.tick x.m est sx).2.1) cs0∧InstAt H' ((MB.tick x.m est sx).2.2) iv1∧x'.ok H'∧x'.g = x.g∧x'.m = (MB.tick x.m est sx).1∧St H' w' (row 53 kOut.sz v0 ((MB.tick x.m est sx).2.1).length cs0::(MM.res 78 81 37 x' ++ L))):=by
  obtain ⟨⟨n,self,cur,prom,high,prop,jl,os⟩,g,gp,A,jn,jc,sv,sc⟩:=x
  cases prop with
  | none =>
    refine Calls.mono (tick_N hs ok.b est b_est sx h_sx hfl htab) ?_
    rintro e w' ⟨H',v0,cs0,iv,m',gp',A',jn',jc',sv',sc',hle,rfl,h1,h2,h3,h4,h5,h6⟩
    exact ⟨H',v0,cs0,iv,⟨m',g,gp',A',jn',jc',sv',sc'⟩,hle,rfl,h1,h2,h3,h4,rfl,h5,h6⟩
  | some p =>
    refine Calls.mono (tick_S hs ok.b (ok.prop p rfl) est b_est sx h_sx hfl htab) ?_
    rintro e w' ⟨H',v0,cs0,iv,m',gp',A',jn',jc',sv',sc',hle,rfl,h1,h2,h3,h4,h5,h6⟩
    exact ⟨H',v0,cs0,iv,⟨m',g,gp',A',jn',jc',sv',sc'⟩,hle,rfl,h1,h2,h3,h4,rfl,h5,h6⟩
theorem in_mm {H:Hp} {w:World} {L:List Res} {x:MM} (hs:St H w (MM.res 78 81 37 x ++ L)) (ok:x.ok H) (f:GFrame) {k_f:List Value} (h_f:kFrame.rep H f k_f) (sx:GState) {k_sx:List Value} (h_sx:kState.rep H sx k_sx) (hpr:∀ p,x.m.prop = some p → p.states.length ≤ 900000∧(∀ s ∈ p.states,0 ≤ s.Floor∧s.Floor ≤ 1073741824)∧∀ s ∈ f.States,0 ≤ s.Floor∧s.Floor ≤ 1073741824) (htab:Tab H):Calls Tryd.prog 17 #[.pointer (some ⟨x.g,0,none⟩),.agg k_f.toArray,.agg k_sx.toArray] w (fun e w' => ∃ (H':Hp) (v0:Value) (cs0:List Value) (iv1:Value) (x':MM),H.le H'∧e = .returned (.tuple #[v0,iv1,.int .i64 (MB.inn x.m f sx).2.2.2])∧RowOk kOut.sz v0 ((MB.inn x.m f sx).2.1).length cs0∧kOut.toKn.rows H' ((MB.inn x.m f sx).2.1) cs0∧InstAt H' ((MB.inn x.m f sx).2.2.1) iv1∧x'.ok H'∧x'.g = x.g∧x'.m = (MB.inn x.m f sx).1∧St H' w' (row 53 kOut.sz v0 ((MB.inn x.m f sx).2.1).length cs0::(MM.res 78 81 37 x' ++ L))):=by
  obtain ⟨⟨n,self,cur,prom,high,prop,jl,os⟩,g,gp,A,jn,jc,sv,sc⟩:=x
  cases prop with
  | none =>
    refine Calls.mono (in_N hs ok.b f h_f sx h_sx htab) ?_
    rintro e w' ⟨H',v0,cs0,iv,m',gp',A',jn',jc',sv',sc',hle,rfl,h1,h2,h3,h4,h5,h6⟩
    exact ⟨H',v0,cs0,iv,⟨m',g,gp',A',jn',jc',sv',sc'⟩,hle,rfl,h1,h2,h3,h4,rfl,h5,h6⟩
  | some p =>
    obtain ⟨q1,q2,q3⟩:=hpr p rfl
    refine Calls.mono (in_S hs ok.b (ok.prop p rfl) f h_f sx h_sx q1 q2 q3 htab) ?_
    rintro e w' ⟨H',v0,cs0,iv,m',gp',A',jn',jc',sv',sc',hle,rfl,h1,h2,h3,h4,h5,h6⟩
    exact ⟨H',v0,cs0,iv,⟨m',g,gp',A',jn',jc',sv',sc'⟩,hle,rfl,h1,h2,h3,h4,rfl,h5,h6⟩
end Go.Proofs.YtcccaihjgoaehaaDoor

set_option linter.unusedVariables false
set_option linter.unusedSimpArgs false
set_option maxRecDepth 100000
namespace Go.Proofs.YtcccaihjgoaehaaDoor
open Go Go.FM Go.Proofs
attribute [local irreducible] wpList wpQuiet wpS Code.wp Calls
set_option maxHeartbeats 8000000 in
theorem new_mm {H:Hp} {w:World} {L:List Res} (hs:St H w (L)) (n:Nat) (z:Nat) (h1:1 ≤ n) (h2:n ≤ 16) (h3:z < n):Calls Tryd.prog 11 #[.int .i64 ((n:Nat):Int),.int .i64 ((z:Nat):Int)] w (fun e w' => ∃ (x0:MM),e = .returned (.tuple #[.pointer (some ⟨x0.g,0,none⟩),.int .i64 0])∧MM.ok x0 H∧x0.m = (MB.new n z)∧St H w' (MM.res 78 81 37 x0 ++ (L))):=by
 refine enter (args:=[.int .i64 ((n:Nat):Int),.int .i64 ((z:Nat):Int)]) (N:=25) Tryd.func11 rfl rfl rfl ?_
 refine c_seq (c_region (st (v:=.pointer none) (x_assign .const) ?_))
 refine st (v:=.int .i64 0) (x_assign .const) ?_
 refine c_nil (n_then (c_seq (c_seq (c_region (st (v:=.int .i64 ((n:Nat):Int)) (x_move (.tmp rfl rfl)) ?_)))))
 refine st (v:=.bool (decide ((((n:Nat):Int):Int) < 1))) (x_lss (k:=.i64) (a:=((n:Nat):Int)) (b:=1) (.tmp rfl rfl) .const) ?_
 refine st (v:=.bool (decide ((((n:Nat):Int):Int) < 1))) (x_move (.tmp rfl rfl)) ?_
 have hc1:(decide ((((n:Nat):Int):Int) < 1)) = false:=decide_eq_false (by omega)
 refine g_yes (yk 8 false rfl rfl hc1) ?_
 refine st (v:=.int .i64 ((n:Nat):Int)) (x_move (.tmp rfl rfl)) ?_
 refine g_yes (yk 8 false rfl rfl hc1) ?_
 refine st (v:=.bool (decide ((16:Int) < ((n:Nat):Int)))) (x_gtr (k:=.i64) (a:=((n:Nat):Int)) (b:=16) (.tmp rfl rfl) .const) ?_
 refine st (v:=.bool (decide ((16:Int) < ((n:Nat):Int)))) (x_pick_f (.tmp rfl (cVb hc1)) (.tmp rfl rfl)) ?_
 refine st (v:=.bool (decide ((16:Int) < ((n:Nat):Int)))) (x_move (.tmp rfl rfl)) ?_
 have hc2:(decide ((16:Int) < ((n:Nat):Int))) = false:=decide_eq_false (by omega)
 refine g_yes (yk 12 false rfl rfl hc2) ?_
 refine st (v:=.int .i64 ((z:Nat):Int)) (x_move (.tmp rfl rfl)) ?_
 refine g_yes (yk 12 false rfl rfl hc2) ?_
 refine st (v:=.bool (decide ((((z:Nat):Int):Int) < 0))) (x_lss (k:=.i64) (a:=((z:Nat):Int)) (b:=0) (.tmp rfl rfl) .const) ?_
 refine st (v:=.bool (decide ((((z:Nat):Int):Int) < 0))) (x_pick_f (.tmp rfl (cVb hc2)) (.tmp rfl rfl)) ?_
 refine st (v:=.bool (decide ((((z:Nat):Int):Int) < 0))) (x_move (.tmp rfl rfl)) ?_
 have hc3:(decide ((((z:Nat):Int):Int) < 0)) = false:=decide_eq_false (by omega)
 refine g_yes (yk 16 false rfl rfl hc3) ?_
 refine st (v:=.int .i64 ((z:Nat):Int)) (x_move (.tmp rfl rfl)) ?_
 refine g_yes (yk 16 false rfl rfl hc3) ?_
 refine st (v:=.int .i64 ((n:Nat):Int)) (x_move (.tmp rfl rfl)) ?_
 refine g_yes (yk 16 false rfl rfl hc3) ?_
 refine st (v:=.bool (decide ((((n:Nat):Int):Int) ≤ ((z:Nat):Int)))) (x_geq (k:=.i64) (a:=((z:Nat):Int)) (b:=((n:Nat):Int)) (.tmp rfl rfl) (.tmp rfl rfl)) ?_
 refine st (v:=.bool (decide ((((n:Nat):Int):Int) ≤ ((z:Nat):Int)))) (x_pick_f (.tmp rfl (cVb hc3)) (.tmp rfl rfl)) ?_
 refine c_nil (n_then ?_)
 have hc4:(decide ((((n:Nat):Int):Int) ≤ ((z:Nat):Int))) = false:=decide_eq_false (by omega)
 refine c_cond_f (t:=false) (.tmp rfl (cVb hc4)) rfl ?_
 refine c_skip (n_then (c_seq (c_region (st (v:=.int .i64 ((n:Nat):Int)) (x_move (.tmp rfl rfl)) ?_))))
 refine st (v:=.int .i64 ((z:Nat):Int)) (x_move (.tmp rfl rfl)) ?_
 refine st (v:=.agg #[.int .i64 ((n:Nat):Int),.int .i64 ((z:Nat):Int),.int .u64 0,.int .i64 0,.int .u16 0,.int .u64 0,.int .i64 0,.int .u64 0,.pointer none,.slice none 0 0,.int .u8 0,.int .i64 0,.int .u64 0,.int .i64 0,.int .u16 0,.int .u64 0,.int .i64 0,.int .u64 0,.int .i64 0,.slice none 0 0,.int .u64 0,.slice none 0 0,.slice none 0 0,.int .u64 0,.int .u64 0,.int .u8 0,.int .i64 0,.int .u64 0,.int .i64 0,.int .u16 0,.int .u64 0,.int .i64 0,.int .u64 0,.int .i64 0,.slice none 0 0,.int .u64 0,.slice none 0 0,.slice none 0 0,.int .u64 0,.int .u64 0,.int .u8 0,.int .i64 0,.int .u64 0,.int .i64 0,.int .u16 0,.int .u64 0,.int .i64 0,.int .u64 0,.int .i64 0,.slice none 0 0,.int .u64 0,.slice none 0 0,.slice none 0 0,.int .u64 0,.int .u64 0,.int .u8 0,.int .i64 0,.int .u64 0,.int .i64 0,.int .u16 0,.int .u64 0,.int .i64 0,.int .u64 0,.int .i64 0,.slice none 0 0,.int .u64 0,.slice none 0 0,.slice none 0 0,.int .u64 0,.int .u64 0,.int .u8 0,.int .i64 0,.int .u64 0,.int .i64 0,.int .u16 0,.int .u64 0,.int .i64 0,.int .u64 0,.int .i64 0,.slice none 0 0,.int .u64 0,.slice none 0 0,.slice none 0 0,.int .u64 0,.int .u64 0,.int .u8 0,.int .i64 0,.int .u64 0,.int .i64 0,.int .u16 0,.int .u64 0,.int .i64 0,.int .u64 0,.int .i64 0,.slice none 0 0,.int .u64 0,.slice none 0 0,.slice none 0 0,.int .u64 0,.int .u64 0,.int .u8 0,.int .i64 0,.int .u64 0,.int .i64 0,.int .u16 0,.int .u64 0,.int .i64 0,.int .u64 0,.int .i64 0,.slice none 0 0,.int .u64 0,.slice none 0 0,.slice none 0 0,.int .u64 0,.int .u64 0,.int .u8 0,.int .i64 0,.int .u64 0,.int .i64 0,.int .u16 0,.int .u64 0,.int .i64 0,.int .u64 0,.int .i64 0,.slice none 0 0,.int .u64 0,.slice none 0 0,.slice none 0 0,.int .u64 0,.int .u64 0,.int .u8 0,.int .i64 0,.int .u64 0,.int .i64 0,.int .u16 0,.int .u64 0,.int .i64 0,.int .u64 0,.int .i64 0,.slice none 0 0,.int .u64 0,.slice none 0 0,.slice none 0 0,.int .u64 0,.int .u64 0,.int .u8 0,.int .i64 0,.int .u64 0,.int .i64 0,.int .u16 0,.int .u64 0,.int .i64 0,.int .u64 0,.int .i64 0,.slice none 0 0,.int .u64 0,.slice none 0 0,.slice none 0 0,.int .u64 0,.int .u64 0,.int .u8 0,.int .i64 0,.int .u64 0,.int .i64 0,.int .u16 0,.int .u64 0,.int .i64 0,.int .u64 0,.int .i64 0,.slice none 0 0,.int .u64 0,.slice none 0 0,.slice none 0 0,.int .u64 0,.int .u64 0,.int .u8 0,.int .i64 0,.int .u64 0,.int .i64 0,.int .u16 0,.int .u64 0,.int .i64 0,.int .u64 0,.int .i64 0,.slice none 0 0,.int .u64 0,.slice none 0 0,.slice none 0 0,.int .u64 0,.int .u64 0,.int .u8 0,.int .i64 0,.int .u64 0,.int .i64 0,.int .u16 0,.int .u64 0,.int .i64 0,.int .u64 0,.int .i64 0,.slice none 0 0,.int .u64 0,.slice none 0 0,.slice none 0 0,.int .u64 0,.int .u64 0,.int .u8 0,.int .i64 0,.int .u64 0,.int .i64 0,.int .u16 0,.int .u64 0,.int .i64 0,.int .u64 0,.int .i64 0,.slice none 0 0,.int .u64 0,.slice none 0 0,.slice none 0 0,.int .u64 0,.int .u64 0,.int .u8 0,.int .i64 0,.int .u64 0,.int .i64 0,.int .u16 0,.int .u64 0,.int .i64 0,.int .u64 0,.int .i64 0,.slice none 0 0,.int .u64 0,.slice none 0 0,.slice none 0 0,.int .u64 0,.int .u64 0,.int .u8 0,.int .i64 0,.int .u64 0,.int .i64 0,.int .u16 0,.int .u64 0,.int .i64 0,.int .u64 0,.int .i64 0,.slice none 0 0,.int .u64 0,.slice none 0 0,.slice none 0 0,.int .u64 0,.int .u64 0]) (bl78 (ps:=[(0,.int .i64 ((n:Nat):Int)),(1,.int .i64 ((z:Nat):Int))]) (.cons (.tmp rfl rfl) (.cons (.tmp rfl rfl) Evp.nil)) rfl) ?_
 refine st_m (m_box (cs:=[.int .i64 ((n:Nat):Int),.int .i64 ((z:Nat):Int),.int .u64 0,.int .i64 0,.int .u16 0,.int .u64 0,.int .i64 0,.int .u64 0,.pointer none,.slice none 0 0,.int .u8 0,.int .i64 0,.int .u64 0,.int .i64 0,.int .u16 0,.int .u64 0,.int .i64 0,.int .u64 0,.int .i64 0,.slice none 0 0,.int .u64 0,.slice none 0 0,.slice none 0 0,.int .u64 0,.int .u64 0,.int .u8 0,.int .i64 0,.int .u64 0,.int .i64 0,.int .u16 0,.int .u64 0,.int .i64 0,.int .u64 0,.int .i64 0,.slice none 0 0,.int .u64 0,.slice none 0 0,.slice none 0 0,.int .u64 0,.int .u64 0,.int .u8 0,.int .i64 0,.int .u64 0,.int .i64 0,.int .u16 0,.int .u64 0,.int .i64 0,.int .u64 0,.int .i64 0,.slice none 0 0,.int .u64 0,.slice none 0 0,.slice none 0 0,.int .u64 0,.int .u64 0,.int .u8 0,.int .i64 0,.int .u64 0,.int .i64 0,.int .u16 0,.int .u64 0,.int .i64 0,.int .u64 0,.int .i64 0,.slice none 0 0,.int .u64 0,.slice none 0 0,.slice none 0 0,.int .u64 0,.int .u64 0,.int .u8 0,.int .i64 0,.int .u64 0,.int .i64 0,.int .u16 0,.int .u64 0,.int .i64 0,.int .u64 0,.int .i64 0,.slice none 0 0,.int .u64 0,.slice none 0 0,.slice none 0 0,.int .u64 0,.int .u64 0,.int .u8 0,.int .i64 0,.int .u64 0,.int .i64 0,.int .u16 0,.int .u64 0,.int .i64 0,.int .u64 0,.int .i64 0,.slice none 0 0,.int .u64 0,.slice none 0 0,.slice none 0 0,.int .u64 0,.int .u64 0,.int .u8 0,.int .i64 0,.int .u64 0,.int .i64 0,.int .u16 0,.int .u64 0,.int .i64 0,.int .u64 0,.int .i64 0,.slice none 0 0,.int .u64 0,.slice none 0 0,.slice none 0 0,.int .u64 0,.int .u64 0,.int .u8 0,.int .i64 0,.int .u64 0,.int .i64 0,.int .u16 0,.int .u64 0,.int .i64 0,.int .u64 0,.int .i64 0,.slice none 0 0,.int .u64 0,.slice none 0 0,.slice none 0 0,.int .u64 0,.int .u64 0,.int .u8 0,.int .i64 0,.int .u64 0,.int .i64 0,.int .u16 0,.int .u64 0,.int .i64 0,.int .u64 0,.int .i64 0,.slice none 0 0,.int .u64 0,.slice none 0 0,.slice none 0 0,.int .u64 0,.int .u64 0,.int .u8 0,.int .i64 0,.int .u64 0,.int .i64 0,.int .u16 0,.int .u64 0,.int .i64 0,.int .u64 0,.int .i64 0,.slice none 0 0,.int .u64 0,.slice none 0 0,.slice none 0 0,.int .u64 0,.int .u64 0,.int .u8 0,.int .i64 0,.int .u64 0,.int .i64 0,.int .u16 0,.int .u64 0,.int .i64 0,.int .u64 0,.int .i64 0,.slice none 0 0,.int .u64 0,.slice none 0 0,.slice none 0 0,.int .u64 0,.int .u64 0,.int .u8 0,.int .i64 0,.int .u64 0,.int .i64 0,.int .u16 0,.int .u64 0,.int .i64 0,.int .u64 0,.int .i64 0,.slice none 0 0,.int .u64 0,.slice none 0 0,.slice none 0 0,.int .u64 0,.int .u64 0,.int .u8 0,.int .i64 0,.int .u64 0,.int .i64 0,.int .u16 0,.int .u64 0,.int .i64 0,.int .u64 0,.int .i64 0,.slice none 0 0,.int .u64 0,.slice none 0 0,.slice none 0 0,.int .u64 0,.int .u64 0,.int .u8 0,.int .i64 0,.int .u64 0,.int .i64 0,.int .u16 0,.int .u64 0,.int .i64 0,.int .u64 0,.int .i64 0,.slice none 0 0,.int .u64 0,.slice none 0 0,.slice none 0 0,.int .u64 0,.int .u64 0,.int .u8 0,.int .i64 0,.int .u64 0,.int .i64 0,.int .u16 0,.int .u64 0,.int .i64 0,.int .u64 0,.int .i64 0,.slice none 0 0,.int .u64 0,.slice none 0 0,.slice none 0 0,.int .u64 0,.int .u64 0,.int .u8 0,.int .i64 0,.int .u64 0,.int .i64 0,.int .u16 0,.int .u64 0,.int .i64 0,.int .u64 0,.int .i64 0,.slice none 0 0,.int .u64 0,.slice none 0 0,.slice none 0 0,.int .u64 0,.int .u64 0]) hs (v:=.agg #[.int .i64 ((n:Nat):Int),.int .i64 ((z:Nat):Int),.int .u64 0,.int .i64 0,.int .u16 0,.int .u64 0,.int .i64 0,.int .u64 0,.pointer none,.slice none 0 0,.int .u8 0,.int .i64 0,.int .u64 0,.int .i64 0,.int .u16 0,.int .u64 0,.int .i64 0,.int .u64 0,.int .i64 0,.slice none 0 0,.int .u64 0,.slice none 0 0,.slice none 0 0,.int .u64 0,.int .u64 0,.int .u8 0,.int .i64 0,.int .u64 0,.int .i64 0,.int .u16 0,.int .u64 0,.int .i64 0,.int .u64 0,.int .i64 0,.slice none 0 0,.int .u64 0,.slice none 0 0,.slice none 0 0,.int .u64 0,.int .u64 0,.int .u8 0,.int .i64 0,.int .u64 0,.int .i64 0,.int .u16 0,.int .u64 0,.int .i64 0,.int .u64 0,.int .i64 0,.slice none 0 0,.int .u64 0,.slice none 0 0,.slice none 0 0,.int .u64 0,.int .u64 0,.int .u8 0,.int .i64 0,.int .u64 0,.int .i64 0,.int .u16 0,.int .u64 0,.int .i64 0,.int .u64 0,.int .i64 0,.slice none 0 0,.int .u64 0,.slice none 0 0,.slice none 0 0,.int .u64 0,.int .u64 0,.int .u8 0,.int .i64 0,.int .u64 0,.int .i64 0,.int .u16 0,.int .u64 0,.int .i64 0,.int .u64 0,.int .i64 0,.slice none 0 0,.int .u64 0,.slice none 0 0,.slice none 0 0,.int .u64 0,.int .u64 0,.int .u8 0,.int .i64 0,.int .u64 0,.int .i64 0,.int .u16 0,.int .u64 0,.int .i64 0,.int .u64 0,.int .i64 0,.slice none 0 0,.int .u64 0,.slice none 0 0,.slice none 0 0,.int .u64 0,.int .u64 0,.int .u8 0,.int .i64 0,.int .u64 0,.int .i64 0,.int .u16 0,.int .u64 0,.int .i64 0,.int .u64 0,.int .i64 0,.slice none 0 0,.int .u64 0,.slice none 0 0,.slice none 0 0,.int .u64 0,.int .u64 0,.int .u8 0,.int .i64 0,.int .u64 0,.int .i64 0,.int .u16 0,.int .u64 0,.int .i64 0,.int .u64 0,.int .i64 0,.slice none 0 0,.int .u64 0,.slice none 0 0,.slice none 0 0,.int .u64 0,.int .u64 0,.int .u8 0,.int .i64 0,.int .u64 0,.int .i64 0,.int .u16 0,.int .u64 0,.int .i64 0,.int .u64 0,.int .i64 0,.slice none 0 0,.int .u64 0,.slice none 0 0,.slice none 0 0,.int .u64 0,.int .u64 0,.int .u8 0,.int .i64 0,.int .u64 0,.int .i64 0,.int .u16 0,.int .u64 0,.int .i64 0,.int .u64 0,.int .i64 0,.slice none 0 0,.int .u64 0,.slice none 0 0,.slice none 0 0,.int .u64 0,.int .u64 0,.int .u8 0,.int .i64 0,.int .u64 0,.int .i64 0,.int .u16 0,.int .u64 0,.int .i64 0,.int .u64 0,.int .i64 0,.slice none 0 0,.int .u64 0,.slice none 0 0,.slice none 0 0,.int .u64 0,.int .u64 0,.int .u8 0,.int .i64 0,.int .u64 0,.int .i64 0,.int .u16 0,.int .u64 0,.int .i64 0,.int .u64 0,.int .i64 0,.slice none 0 0,.int .u64 0,.slice none 0 0,.slice none 0 0,.int .u64 0,.int .u64 0,.int .u8 0,.int .i64 0,.int .u64 0,.int .i64 0,.int .u16 0,.int .u64 0,.int .i64 0,.int .u64 0,.int .i64 0,.slice none 0 0,.int .u64 0,.slice none 0 0,.slice none 0 0,.int .u64 0,.int .u64 0,.int .u8 0,.int .i64 0,.int .u64 0,.int .i64 0,.int .u16 0,.int .u64 0,.int .i64 0,.int .u64 0,.int .i64 0,.slice none 0 0,.int .u64 0,.slice none 0 0,.slice none 0 0,.int .u64 0,.int .u64 0,.int .u8 0,.int .i64 0,.int .u64 0,.int .i64 0,.int .u16 0,.int .u64 0,.int .i64 0,.int .u64 0,.int .i64 0,.slice none 0 0,.int .u64 0,.slice none 0 0,.slice none 0 0,.int .u64 0,.int .u64 0,.int .u8 0,.int .i64 0,.int .u64 0,.int .i64 0,.int .u16 0,.int .u64 0,.int .i64 0,.int .u64 0,.int .i64 0,.slice none 0 0,.int .u64 0,.slice none 0 0,.slice none 0 0,.int .u64 0,.int .u64 0]) (.tmp rfl rfl) rfl) ?_
 rintro _ w6 ⟨g5,rfl,hs8⟩
 refine st (v:=.pointer (some ⟨g5,0,none⟩)) (x_assign (.tmp rfl rfl)) ?_
 refine st (v:=.int .i64 0) (x_assign .const) ?_
 refine c_nil (n_then (c_ret (leave_ret (res_two (v:=.pointer (some ⟨g5,0,none⟩)) (u:=.int .i64 0) rfl (.mk rfl rfl) (.mk rfl rfl)) ?_)))
 have hs9:St H _ (MM.res 78 81 37 (MM.mk (MB.new n z) g5 0 none 0 0 (.slice none 0 0) []) ++ (L)):=St.upL (L:=L) (A:=[]) [_] hs8
 exact ⟨(MM.mk (MB.new n z) g5 0 none 0 0 (.slice none 0 0) []),rfl,(MM.ok.new (by omega) (by omega) (by omega)),rfl,hs9⟩
end Go.Proofs.YtcccaihjgoaehaaDoor

set_option linter.unusedVariables false
set_option linter.unusedSimpArgs false
namespace Go.Proofs.YtcccaihjgoaehaaDoor
open Go Go.FM Go.Proofs
attribute [local irreducible] wpList wpQuiet wpS Code.wp Calls
end Go.Proofs.YtcccaihjgoaehaaDoor

set_option linter.unusedVariables false
set_option linter.unusedSimpArgs false
namespace Go.Proofs.YtcccaihjgoaehaaDoor
open Go Go.FM Go.Proofs
attribute [local irreducible] wpList wpQuiet wpS Code.wp Calls
set_option maxHeartbeats 8000000 in
theorem awake_spec {H:Hp} {w:World} {L:List Res} (hs:St H w (L)) (htab:Tab H):Calls Tryd.prog 10 #[] w (fun e w' => e = .returned (.bool true)∧St H w' (L)):=by
 refine enter (args:=[]) (N:=90) Tryd.func10 rfl rfl rfl ?_
 refine c_seq (c_region (st (v:=.bool false) (x_assign .const) ?_))
 refine c_nil (n_then (c_seq (c_region (st_c cb11 .func (evs2 .const .const) (new_mm hs 2 0 (by omega) (by omega) (by omega)) ?_))))
 rintro e w1 ⟨mm3,rfl,mok4,hmm5,hs2⟩
 refine ⟨_,rfl,?_⟩
 refine st (v:=.tuple #[.pointer (some ⟨mm3.g,0,none⟩),.int .i64 0]) (x_move (.tmp rfl rfl)) ?_
 refine st (v:=.pointer (some ⟨mm3.g,0,none⟩)) (x_extract (.tmp rfl rfl) (i:=0) rfl) ?_
 refine st (v:=.int .i64 0) (x_extract (.tmp rfl rfl) (i:=1) rfl) ?_
 refine st (v:=.pointer (some ⟨mm3.g,0,none⟩)) (x_assign (.tmp rfl rfl)) ?_
 refine st (v:=.int .i64 0) (x_assign (.tmp rfl rfl)) ?_
 refine c_nil (n_then (c_seq (c_seq (c_region (st (v:=.int .i64 0) (x_move (.tmp rfl rfl)) ?_)))))
 refine st (v:=.bool false) (x_neq (k:=.i64) (a:=0) (b:=0) (.tmp rfl rfl) .const) ?_
 refine st (v:=.bool false) (x_move (.tmp rfl rfl)) ?_
 refine g_yes (yl (dj:=14) (b:=false) rfl rfl rfl) ?_
 refine st (v:=.pointer (some ⟨mm3.g,0,none⟩)) (x_move (.tmp rfl rfl)) ?_
 refine g_yes (yl (dj:=14) (b:=false) rfl rfl rfl) ?_
 refine st (v:=.bool false) (x_eqlP Tryd.underlying23 (.tmp rfl rfl) .const rfl) ?_
 refine st (v:=.bool false) (x_pick_f (.tmp rfl rfl) (.tmp rfl rfl)) ?_
 refine c_nil (n_then (c_cond_f (t:=false) (.tmp rfl rfl) rfl ?_))
 refine c_skip (n_then (c_seq (c_region (st (v:=.pointer (some ⟨mm3.g,0,none⟩)) (x_move (.tmp rfl rfl)) ?_))))
 refine st (v:=.agg #[.int .u64 0,.int .i64 0,.int .i64 0,.slice none 0 0]) (bl37 (ps:=[]) Evp.nil rfl) ?_
 have hs8:St H _ (MM.res 78 81 37 mm3 ++ (L)):=St.upL [] hs2
 have hr9:kState.rep H (GState.mk (GViewID.mk 0 0) 0 []) [.int .u64 0,.int .i64 0,.int .i64 0,.slice none 0 0]:=⟨none,0,0,rfl,(show 0 < 18446744073709551616 from by omega),(show IB 0 from ⟨by omega,by omega⟩),(show IB 0 from ⟨by omega,by omega⟩),(Sl.nil _ _ none)⟩
 refine st_c cb12 .func (evs3 (.tmp rfl rfl) .const (.tmp rfl rfl)) (tick_mm hs8 (x:=mm3) mok4 3 (by decide) (GState.mk (GViewID.mk 0 0) 0 []) hr9 (by decide) htab) ?_
 rintro e w10 ⟨H12,v14,cs17,iv19,mm21,hle13,rfl,ok15,hk18,hin20,mok22,hmg23,hmm24,hs11⟩
 refine ⟨_,rfl,?_⟩
 have hs26:=St.upL [row 53 16 v14 (((MB.tick mm3.m 3 (GState.mk (GViewID.mk 0 0) 0 [])).2.1).length) cs17] hs11
 have hs25:St H12 _ (row 53 16 v14 (((MB.tick mm3.m 3 (GState.mk (GViewID.mk 0 0) 0 [])).2.1).length) cs17::MM.res 78 81 37 mm21 ++ (L)):=St.downL [row 53 16 v14 (((MB.tick mm3.m 3 (GState.mk (GViewID.mk 0 0) 0 [])).2.1).length) cs17] hs26
 refine st (v:=.tuple #[v14,iv19]) (x_move (.tmp rfl rfl)) ?_
 refine st (v:=v14) (x_extract (.tmp rfl rfl) (i:=0) rfl) ?_
 refine st (v:=iv19) (x_extract (.tmp rfl rfl) (i:=1) rfl) ?_
 refine st (v:=v14) (x_assign (.tmp rfl rfl)) ?_
 refine st (v:=iv19) (x_assign (.tmp rfl rfl)) ?_
 refine c_nil (n_then (c_seq (c_seq (c_region (st (v:=v14) (x_move (.tmp rfl rfl)) ?_)))))
 obtain ⟨A27,c28,hv29,hc30⟩:=ok15.slice
 refine st (v:=.int .i64 ((((MB.tick mm3.m 3 (GState.mk (GViewID.mk 0 0) 0 [])).2.1).length:Nat):Int)) (x_len (n:=((MB.tick mm3.m 3 (GState.mk (GViewID.mk 0 0) 0 [])).2.1).length) Tryd.underlying27 (.tmp rfl hv29)) ?_
 refine st (v:=.bool (decide ((((((MB.tick mm3.m 3 (GState.mk (GViewID.mk 0 0) 0 [])).2.1).length:Nat):Int):Int) ≠ 1))) (x_neq (k:=.i64) (a:=((((MB.tick mm3.m 3 (GState.mk (GViewID.mk 0 0) 0 [])).2.1).length:Nat):Int)) (b:=1) (.tmp rfl rfl) .const) ?_
 refine st (v:=.bool (decide ((((((MB.tick mm3.m 3 (GState.mk (GViewID.mk 0 0) 0 [])).2.1).length:Nat):Int):Int) ≠ 1))) (x_move (.tmp rfl rfl)) ?_
 have hc31:(decide ((((((MB.tick mm3.m 3 (GState.mk (GViewID.mk 0 0) 0 [])).2.1).length:Nat):Int):Int) ≠ 1)) = false:=(by rw [hmm5]; decide +kernel)
 have hp31:¬ ((((((MB.tick mm3.m 3 (GState.mk (GViewID.mk 0 0) 0 [])).2.1).length:Nat):Int):Int) ≠ 1):=of_decide_eq_false hc31
 refine g_yes (yk 27 false rfl rfl hc31) ?_
 refine st (v:=iv19) (x_move (.tmp rfl rfl)) ?_
 refine g_yes (yk 27 false rfl rfl hc31) ?_
 obtain rfl:iv19 = .pointer none:=by have h9:=hin20; rw [show (MB.tick mm3.m 3 (GState.mk (GViewID.mk 0 0) 0 [])).2.2 = none from (by rw [hmm5]; decide +kernel)] at h9; exact h9
 refine st (v:=.bool false) (x_neqP Tryd.underlying28 (.tmp rfl rfl) .const rfl) ?_
 refine st (v:=.bool false) (x_pick_f (.tmp rfl (cVb hc31)) (.tmp rfl rfl)) ?_
 refine st (v:=.bool false) (x_move (.tmp rfl rfl)) ?_
 refine g_yes (yl (dj:=31) (b:=false) rfl rfl rfl) ?_
 refine st (v:=v14) (x_move (.tmp rfl rfl)) ?_
 refine g_yes (yl (dj:=31) (b:=false) rfl rfl rfl) ?_
 obtain ⟨g39,c40,hv41⟩:=ok15.pos (by omega)
 obtain ⟨e42,cs43,hx44,hr45,hsub46⟩:=Kn.rows_get (i:=0) hk18 (by omega)
 obtain ⟨A62,n63,c64,A67,n68,c69,A71,n72,c73,rfl,⟨b47,b48⟩,b49,⟨b50,b51⟩,b52,⟨b53,b54⟩,b55,b56,⟨b57,b58⟩,b59,⟨b60,b61⟩,hl65,b66,hl70,hl74,b75,b76⟩:=hr45
 have:=hl65.len; have:n63 * 48 ≤ 140737488351232:=hl65.bnd; have:=hl65.le
 have:=hl70.len; have:n68 * 24 ≤ 140737488351232:=hl70.bnd; have:=hl70.le
 have:=hl74.len; have:n72 * 32 ≤ 140737488351232:=hl74.bnd; have:=hl74.le
 have hk_e42:=el_eval (fun o:GOut => o.F.Kind) 2 hx44 (by rw [hmm5]; decide +kernel)
 have hi_e42:=el_eval (fun o:GOut => o.F.ID) (GViewID.mk 1 0) hx44 (by rw [hmm5]; decide +kernel)
 have hk2_e42:e42.F.Kind = 2:=hk_e42
 refine st (v:=.pointer (some ⟨g39,(0 * 16),none⟩)) (ixo27 (.tmp rfl hv41) rfl (i:=0) .const (by omega) (by omega) (by omega)) ?_
 refine g_yes (yl (dj:=31) (b:=false) rfl rfl rfl) ?_
 refine st (v:=.pointer (some ⟨g39,(0 * 16) + 1,none⟩)) (fa53_1 (.tmp rfl rfl)) ?_
 refine g_yes (yl (dj:=31) (b:=false) rfl rfl rfl) ?_
 refine st (v:=.pointer (some ⟨g39,(0 * 16) + 1 + 0,none⟩)) (fa51_0 (.tmp rfl rfl)) ?_
 refine g_yes (yl (dj:=31) (b:=false) rfl rfl rfl) ?_
 refine st (v:=.int .u8 ((e42.F.Kind:Nat):Int)) (ld5 (.tmp rfl rfl) ((hs25.rowAt 0 rfl hv41 (0 * 16) hsub46).cell 1 rfl)) ?_
 refine g_yes (yl (dj:=31) (b:=false) rfl rfl rfl) ?_
 refine st (v:=.bool (decide ((((e42.F.Kind:Nat):Int):Int) ≠ 2))) (x_neq (k:=.u8) (a:=((e42.F.Kind:Nat):Int)) (b:=2) (.tmp rfl rfl) .const) ?_
 refine st (v:=.bool (decide ((((e42.F.Kind:Nat):Int):Int) ≠ 2))) (x_pick_f (.tmp rfl rfl) (.tmp rfl rfl)) ?_
 refine st (v:=.bool (decide ((((e42.F.Kind:Nat):Int):Int) ≠ 2))) (x_move (.tmp rfl rfl)) ?_
 have hc77:(decide ((((e42.F.Kind:Nat):Int):Int) ≠ 2)) = false:=(decide_eq_false (by omega))
 have hp77:¬ ((((e42.F.Kind:Nat):Int):Int) ≠ 2):=of_decide_eq_false hc77
 refine g_yes (yk 39 false rfl rfl hc77) ?_
 refine st (v:=v14) (x_move (.tmp rfl rfl)) ?_
 refine g_yes (yk 39 false rfl rfl hc77) ?_
 obtain ⟨g78,c79,hv80⟩:=ok15.pos (by omega)
 refine st (v:=.pointer (some ⟨g78,(0 * 16),none⟩)) (ixo27 (.tmp rfl hv80) rfl (i:=0) .const (by omega) (by omega) (by omega)) ?_
 refine g_yes (yk 39 false rfl rfl hc77) ?_
 refine st (v:=.pointer (some ⟨g78,(0 * 16) + 1,none⟩)) (fa53_1 (.tmp rfl rfl)) ?_
 refine g_yes (yk 39 false rfl rfl hc77) ?_
 refine st (v:=.pointer (some ⟨g78,(0 * 16) + 1 + 2,none⟩)) (fa51_2 (.tmp rfl rfl)) ?_
 refine g_yes (yk 39 false rfl rfl hc77) ?_
 refine st (v:=.agg #[.int .u64 ((e42.F.ID.N:Nat):Int),.int .i64 e42.F.ID.P]) (ld34 (cs:=[.int .u64 ((e42.F.ID.N:Nat):Int),.int .i64 e42.F.ID.P]) (.tmp rfl rfl) ((hs25.rowAt 0 rfl hv80 (0 * 16) hsub46).sub 3 rfl) rfl) ?_
 refine g_yes (yk 39 false rfl rfl hc77) ?_
 refine st (v:=.agg #[.int .u64 1,.int .i64 0]) (bl34 (ps:=[(0,.int .u64 1)]) (.cons .const Evp.nil) rfl) ?_
 refine g_yes (yk 39 false rfl rfl hc77) ?_
 refine st (v:=.bool (!((((e42.F.ID.N:Nat):Int) == 1) && ((e42.F.ID.P == 0) && true)))) (x_neqA eqg34 (.tmp rfl rfl) (.tmp rfl rfl) (fun d => eqs34 (d + 98) _ ((e42.F.ID.N:Nat):Int) 1 e42.F.ID.P 0)) ?_
 refine st (v:=.bool (!(decide (e42.F.ID = (GViewID.mk 1 0))))) (x_pick_f (.tmp rfl (cVb hc77)) (.tmp rfl (congrArg (fun z => Value.bool (!z)) (GViewID.beq_dec e42.F.ID (GViewID.mk 1 0))))) ?_
 refine c_nil (n_then ?_)
 have hc81:(decide (e42.F.ID = (GViewID.mk 1 0))) = true:=(decide_eq_true hi_e42)
 have hp81:e42.F.ID = (GViewID.mk 1 0):=of_decide_eq_true hc81
 refine c_cond_f (t:=false) (.tmp rfl (cVb (by rw [hc81]; rfl))) rfl ?_
 refine c_skip (n_then (c_seq (c_region (st (v:=.pointer (some ⟨mm21.g,0,none⟩)) (x_move (.tmp rfl (congrArg (fun z => Value.pointer (some ⟨z,0,none⟩)) hmg23.symm))) ?_))))
 refine st (v:=.agg #[.int .u64 1,.int .i64 0]) (bl34 (ps:=[(0,.int .u64 1)]) (.cons .const Evp.nil) rfl) ?_
 refine st (v:=.agg #[.int .u64 0,.int .i64 0,.int .i64 0,.slice none 0 0]) (bl37 (ps:=[]) Evp.nil rfl) ?_
 refine st_m (m_lit (n:=1) (ps:=[(0,.agg #[.int .u64 0,.int .i64 0,.int .i64 0,.slice none 0 0])]) (cs:=[.int .u64 0,.int .i64 0,.int .i64 0,.slice none 0 0]) Tryd.underlying40 inf37 (.cons (.tmp rfl rfl) Evp.nil) (by decide) (by decide) rfl rfl hs25) ?_
 rintro _ w83 ⟨g82,rfl,hs85⟩
 refine st (v:=.agg #[.int .u8 3,.int .i64 1,.int .u64 1,.int .i64 0,.int .u16 0,.int .u64 0,.int .i64 0,.int .u64 0,.int .i64 0,.slice (some ⟨g82,0,none⟩) 1 1,.int .u64 0,.slice none 0 0,.slice none 0 0,.int .u64 0,.int .u64 0]) (bl51 (ps:=[(0,.int .u8 3),(1,.int .i64 1),(2,.agg #[.int .u64 1,.int .i64 0]),(6,.slice (some ⟨g82,0,none⟩) 1 1)]) (.cons .const (.cons .const (.cons (.tmp rfl rfl) (.cons (.tmp rfl rfl) Evp.nil)))) rfl) ?_
 refine st (v:=.agg #[.int .u64 0,.int .i64 0,.int .i64 0,.slice none 0 0]) (bl37 (ps:=[]) Evp.nil rfl) ?_
 have hr91:kState.rep H12 (GState.mk (GViewID.mk 0 0) 0 []) [.int .u64 0,.int .i64 0,.int .i64 0,.slice none 0 0]:=⟨none,0,0,rfl,(show 0 < 18446744073709551616 from by omega),(show IB 0 from ⟨by omega,by omega⟩),(show IB 0 from ⟨by omega,by omega⟩),(Sl.nil _ _ none)⟩
 have hk92:kState.toKn.rows H12 [(GState.mk (GViewID.mk 0 0) 0 [])] [.int .u64 0,.int .i64 0,.int .i64 0,.slice none 0 0]:=Kn.rows_one hr91
 obtain ⟨H86,hle87,hs88,rd89,hb90⟩:=hs85.freezeObj
 have sp93:Sl kState H86 ((some ⟨g82,0,none⟩)) 1 1 [(GState.mk (GViewID.mk 0 0) 0 [])]:=⟨⟨_,rd89,Kn.rows_mono hk92 hle87⟩,rfl,Nat.le_refl _,by decide,by decide⟩
 have hs94:St H86 _ (MM.res 78 81 37 mm21 ++ (row 53 16 v14 (((MB.tick mm3.m 3 (GState.mk (GViewID.mk 0 0) 0 [])).2.1).length) cs17::L)):=St.upL [row 53 16 v14 (((MB.tick mm3.m 3 (GState.mk (GViewID.mk 0 0) 0 [])).2.1).length) cs17] hs88
 have hr95:kFrame.rep H86 (GFrame.mk 3 1 (GViewID.mk 1 0) 0 (GViewID.mk 0 0) (GViewID.mk 0 0) [(GState.mk (GViewID.mk 0 0) 0 [])] 0 [] [] 0 0) [.int .u8 3,.int .i64 1,.int .u64 1,.int .i64 0,.int .u16 0,.int .u64 0,.int .i64 0,.int .u64 0,.int .i64 0,.slice (some ⟨g82,0,none⟩) 1 1,.int .u64 0,.slice none 0 0,.slice none 0 0,.int .u64 0,.int .u64 0]:=⟨(some ⟨g82,0,none⟩),1,1,none,0,0,none,0,0,rfl,(show 3 < 256 from by omega),(show IB 1 from ⟨by omega,by omega⟩),(show 1 < 18446744073709551616 from by omega),(show IB 0 from ⟨by omega,by omega⟩),(show 0 < 65536 from by omega),(show 0 < 18446744073709551616 from by omega),(show IB 0 from ⟨by omega,by omega⟩),(show 0 < 18446744073709551616 from by omega),(show IB 0 from ⟨by omega,by omega⟩),sp93,(show 0 < 18446744073709551616 from by omega),(Sl.nil _ _ none),(Sl.nil _ _ none),(show 0 < 18446744073709551616 from by omega),(show 0 < 18446744073709551616 from by omega)⟩
 have hr96:kState.rep H86 (GState.mk (GViewID.mk 0 0) 0 []) [.int .u64 0,.int .i64 0,.int .i64 0,.slice none 0 0]:=⟨none,0,0,rfl,(show 0 < 18446744073709551616 from by omega),(show IB 0 from ⟨by omega,by omega⟩),(show IB 0 from ⟨by omega,by omega⟩),(Sl.nil _ _ none)⟩
 refine st_c cb17 .func (evs3 (.tmp rfl rfl) (.tmp rfl rfl) (.tmp rfl rfl)) (in_mm hs94 (x:=mm21) (MM.ok.mono mok22 hle87) (GFrame.mk 3 1 (GViewID.mk 1 0) 0 (GViewID.mk 0 0) (GViewID.mk 0 0) [(GState.mk (GViewID.mk 0 0) 0 [])] 0 [] [] 0 0) hr95 (GState.mk (GViewID.mk 0 0) 0 []) hr96 (hpr_of (by rw [hmm24,hmm5]; decide +kernel) (by decide)) (htab.mono (hle13.trans hle87))) ?_
 rintro e w97 ⟨H99,v101,cs104,iv106,mm108,hle100,rfl,ok102,hk105,hin107,mok109,hmg110,hmm111,hs98⟩
 refine ⟨_,rfl,?_⟩
 have hs113:=St.upL [row 53 16 v101 (((MB.inn mm21.m (GFrame.mk 3 1 (GViewID.mk 1 0) 0 (GViewID.mk 0 0) (GViewID.mk 0 0) [(GState.mk (GViewID.mk 0 0) 0 [])] 0 [] [] 0 0) (GState.mk (GViewID.mk 0 0) 0 [])).2.1).length) cs104] hs98
 have hs112:St H99 _ (row 53 16 v101 (((MB.inn mm21.m (GFrame.mk 3 1 (GViewID.mk 1 0) 0 (GViewID.mk 0 0) (GViewID.mk 0 0) [(GState.mk (GViewID.mk 0 0) 0 [])] 0 [] [] 0 0) (GState.mk (GViewID.mk 0 0) 0 [])).2.1).length) cs104::row 53 16 v14 (((MB.tick mm3.m 3 (GState.mk (GViewID.mk 0 0) 0 [])).2.1).length) cs17::MM.res 78 81 37 mm108 ++ (L)):=St.downL [row 53 16 v101 (((MB.inn mm21.m (GFrame.mk 3 1 (GViewID.mk 1 0) 0 (GViewID.mk 0 0) (GViewID.mk 0 0) [(GState.mk (GViewID.mk 0 0) 0 [])] 0 [] [] 0 0) (GState.mk (GViewID.mk 0 0) 0 [])).2.1).length) cs104,row 53 16 v14 (((MB.tick mm3.m 3 (GState.mk (GViewID.mk 0 0) 0 [])).2.1).length) cs17] hs113
 refine st (v:=.tuple #[v101,iv106,.int .i64 ((MB.inn mm21.m (GFrame.mk 3 1 (GViewID.mk 1 0) 0 (GViewID.mk 0 0) (GViewID.mk 0 0) [(GState.mk (GViewID.mk 0 0) 0 [])] 0 [] [] 0 0) (GState.mk (GViewID.mk 0 0) 0 [])).2.2.2)]) (x_move (.tmp rfl rfl)) ?_
 refine st (v:=v101) (x_extract (.tmp rfl rfl) (i:=0) rfl) ?_
 refine st (v:=iv106) (x_extract (.tmp rfl rfl) (i:=1) rfl) ?_
 refine st (v:=.int .i64 ((MB.inn mm21.m (GFrame.mk 3 1 (GViewID.mk 1 0) 0 (GViewID.mk 0 0) (GViewID.mk 0 0) [(GState.mk (GViewID.mk 0 0) 0 [])] 0 [] [] 0 0) (GState.mk (GViewID.mk 0 0) 0 [])).2.2.2)) (x_extract (.tmp rfl rfl) (i:=2) rfl) ?_
 refine st (v:=v101) (x_assign (.tmp rfl rfl)) ?_
 refine st (v:=iv106) (x_assign (.tmp rfl rfl)) ?_
 refine st (v:=.int .i64 ((MB.inn mm21.m (GFrame.mk 3 1 (GViewID.mk 1 0) 0 (GViewID.mk 0 0) (GViewID.mk 0 0) [(GState.mk (GViewID.mk 0 0) 0 [])] 0 [] [] 0 0) (GState.mk (GViewID.mk 0 0) 0 [])).2.2.2)) (x_assign (.tmp rfl rfl)) ?_
 refine c_nil (n_then (c_seq (c_region (st (v:=.int .i64 ((MB.inn mm21.m (GFrame.mk 3 1 (GViewID.mk 1 0) 0 (GViewID.mk 0 0) (GViewID.mk 0 0) [(GState.mk (GViewID.mk 0 0) 0 [])] 0 [] [] 0 0) (GState.mk (GViewID.mk 0 0) 0 [])).2.2.2)) (x_move (.tmp rfl rfl)) ?_))))
 refine st (v:=.bool (decide ((((MB.inn mm21.m (GFrame.mk 3 1 (GViewID.mk 1 0) 0 (GViewID.mk 0 0) (GViewID.mk 0 0) [(GState.mk (GViewID.mk 0 0) 0 [])] 0 [] [] 0 0) (GState.mk (GViewID.mk 0 0) 0 [])).2.2.2):Int) = 0))) (x_eql (k:=.i64) (a:=((MB.inn mm21.m (GFrame.mk 3 1 (GViewID.mk 1 0) 0 (GViewID.mk 0 0) (GViewID.mk 0 0) [(GState.mk (GViewID.mk 0 0) 0 [])] 0 [] [] 0 0) (GState.mk (GViewID.mk 0 0) 0 [])).2.2.2)) (b:=0) (.tmp rfl rfl) .const) ?_
 refine st (v:=.bool (decide ((((MB.inn mm21.m (GFrame.mk 3 1 (GViewID.mk 1 0) 0 (GViewID.mk 0 0) (GViewID.mk 0 0) [(GState.mk (GViewID.mk 0 0) 0 [])] 0 [] [] 0 0) (GState.mk (GViewID.mk 0 0) 0 [])).2.2.2):Int) = 0))) (x_move (.tmp rfl rfl)) ?_
 have hc114:(decide ((((MB.inn mm21.m (GFrame.mk 3 1 (GViewID.mk 1 0) 0 (GViewID.mk 0 0) (GViewID.mk 0 0) [(GState.mk (GViewID.mk 0 0) 0 [])] 0 [] [] 0 0) (GState.mk (GViewID.mk 0 0) 0 [])).2.2.2):Int) = 0)) = true:=(by rw [hmm24,hmm5]; decide +kernel)
 have hp114:(((MB.inn mm21.m (GFrame.mk 3 1 (GViewID.mk 1 0) 0 (GViewID.mk 0 0) (GViewID.mk 0 0) [(GState.mk (GViewID.mk 0 0) 0 [])] 0 [] [] 0 0) (GState.mk (GViewID.mk 0 0) 0 [])).2.2.2):Int) = 0:=of_decide_eq_true hc114
 refine g_yes (yk 61 true rfl rfl hc114) ?_
 refine st (v:=iv106) (x_move (.tmp rfl rfl)) ?_
 refine g_yes (yk 61 true rfl rfl hc114) ?_
 obtain ⟨yi115,gi116,ci117,hX118,rfl,hrd119,hrp120⟩:∃ y g cs,(MB.inn mm21.m (GFrame.mk 3 1 (GViewID.mk 1 0) 0 (GViewID.mk 0 0) (GViewID.mk 0 0) [(GState.mk (GViewID.mk 0 0) 0 [])] 0 [] [] 0 0) (GState.mk (GViewID.mk 0 0) 0 [])).2.2.1 = some y∧iv106 = .pointer (some ⟨g,0,none⟩)∧Rd H99 (some ⟨g,0,none⟩) cs∧kInstall.rep H99 y cs:=by rcases InstAt.cases hin107 with ⟨h9,_⟩ | h9; exact absurd h9 (by rw [hmm24,hmm5]; decide +kernel); exact h9
 obtain ⟨A126,n127,c128,rfl,b122,⟨b123,b124⟩,b125,hl129⟩:=hrp120
 have:=hl129.len; have:n127 * 48 ≤ 140737488351232:=hl129.bnd; have:=hl129.le
 have hat121:∀ {w:World} {L:List Res},St H99 w L → At w ⟨gi116,0,none⟩ [.int .u64 ((yi115.View.ID.N:Nat):Int),.int .i64 yi115.View.ID.P,.int .u16 ((yi115.View.Set:Nat):Int),.slice A126 n127 c128]:=fun h => hrd119.hat h
 have hvs:=el_eval2 (fun i:GInstall => i.View.Set) 3 hX118 (by rw [hmm24,hmm5]; decide +kernel)
 have hvs2:yi115.View.Set = 3:=hvs
 refine st (v:=.bool true) (x_neqP Tryd.underlying28 (.tmp rfl rfl) .const rfl) ?_
 refine st (v:=.bool true) (x_pick_t (.tmp rfl (cVb hc114)) (.tmp rfl rfl)) ?_
 refine st (v:=.bool true) (x_move (.tmp rfl rfl)) ?_
 refine g_yes (yl (dj:=65) (b:=true) rfl rfl rfl) ?_
 refine st (v:=.pointer (some ⟨gi116,0,none⟩)) (x_move (.tmp rfl rfl)) ?_
 refine g_yes (yl (dj:=65) (b:=true) rfl rfl rfl) ?_
 refine st (v:=.pointer (some ⟨gi116,0,none⟩)) (x_nilCheck (.tmp rfl rfl)) ?_
 refine g_yes (yl (dj:=65) (b:=true) rfl rfl rfl) ?_
 refine st (v:=.pointer (some ⟨gi116,0 + 0,none⟩)) (fa42_0 (.tmp rfl rfl)) ?_
 refine g_yes (yl (dj:=65) (b:=true) rfl rfl rfl) ?_
 refine st (v:=.pointer (some ⟨gi116,0 + 0 + 2,none⟩)) (fa39_1 (.tmp rfl rfl)) ?_
 refine g_yes (yl (dj:=65) (b:=true) rfl rfl rfl) ?_
 refine st (v:=.int .u16 ((yi115.View.Set:Nat):Int)) (ld31 (.tmp rfl rfl) ((hat121 hs112).cell 2 rfl)) ?_
 refine g_yes (yl (dj:=65) (b:=true) rfl rfl rfl) ?_
 refine st (v:=.bool (decide ((((yi115.View.Set:Nat):Int):Int) = 3))) (x_eql (k:=.u16) (a:=((yi115.View.Set:Nat):Int)) (b:=3) (.tmp rfl rfl) .const) ?_
 refine st (v:=.bool (decide ((((yi115.View.Set:Nat):Int):Int) = 3))) (x_pick_t (.tmp rfl rfl) (.tmp rfl rfl)) ?_
 refine st (v:=.bool (decide ((((yi115.View.Set:Nat):Int):Int) = 3))) (x_move (.tmp rfl rfl)) ?_
 have hc130:(decide ((((yi115.View.Set:Nat):Int):Int) = 3)) = true:=(decide_eq_true (by omega))
 have hp130:(((yi115.View.Set:Nat):Int):Int) = 3:=of_decide_eq_true hc130
 refine g_yes (yk 73 true rfl rfl hc130) ?_
 refine st (v:=v101) (x_move (.tmp rfl rfl)) ?_
 refine g_yes (yk 73 true rfl rfl hc130) ?_
 obtain ⟨A131,c132,hv133,hc134⟩:=ok102.slice
 refine st (v:=.int .i64 ((((MB.inn mm21.m (GFrame.mk 3 1 (GViewID.mk 1 0) 0 (GViewID.mk 0 0) (GViewID.mk 0 0) [(GState.mk (GViewID.mk 0 0) 0 [])] 0 [] [] 0 0) (GState.mk (GViewID.mk 0 0) 0 [])).2.1).length:Nat):Int)) (x_len (n:=((MB.inn mm21.m (GFrame.mk 3 1 (GViewID.mk 1 0) 0 (GViewID.mk 0 0) (GViewID.mk 0 0) [(GState.mk (GViewID.mk 0 0) 0 [])] 0 [] [] 0 0) (GState.mk (GViewID.mk 0 0) 0 [])).2.1).length) Tryd.underlying27 (.tmp rfl hv133)) ?_
 refine g_yes (yk 73 true rfl rfl hc130) ?_
 refine st (v:=.bool (decide ((((((MB.inn mm21.m (GFrame.mk 3 1 (GViewID.mk 1 0) 0 (GViewID.mk 0 0) (GViewID.mk 0 0) [(GState.mk (GViewID.mk 0 0) 0 [])] 0 [] [] 0 0) (GState.mk (GViewID.mk 0 0) 0 [])).2.1).length:Nat):Int):Int) = 1))) (x_eql (k:=.i64) (a:=((((MB.inn mm21.m (GFrame.mk 3 1 (GViewID.mk 1 0) 0 (GViewID.mk 0 0) (GViewID.mk 0 0) [(GState.mk (GViewID.mk 0 0) 0 [])] 0 [] [] 0 0) (GState.mk (GViewID.mk 0 0) 0 [])).2.1).length:Nat):Int)) (b:=1) (.tmp rfl rfl) .const) ?_
 refine st (v:=.bool (decide ((((((MB.inn mm21.m (GFrame.mk 3 1 (GViewID.mk 1 0) 0 (GViewID.mk 0 0) (GViewID.mk 0 0) [(GState.mk (GViewID.mk 0 0) 0 [])] 0 [] [] 0 0) (GState.mk (GViewID.mk 0 0) 0 [])).2.1).length:Nat):Int):Int) = 1))) (x_pick_t (.tmp rfl (cVb hc130)) (.tmp rfl rfl)) ?_
 refine st (v:=.bool (decide ((((((MB.inn mm21.m (GFrame.mk 3 1 (GViewID.mk 1 0) 0 (GViewID.mk 0 0) (GViewID.mk 0 0) [(GState.mk (GViewID.mk 0 0) 0 [])] 0 [] [] 0 0) (GState.mk (GViewID.mk 0 0) 0 [])).2.1).length:Nat):Int):Int) = 1))) (x_move (.tmp rfl rfl)) ?_
 have hc135:(decide ((((((MB.inn mm21.m (GFrame.mk 3 1 (GViewID.mk 1 0) 0 (GViewID.mk 0 0) (GViewID.mk 0 0) [(GState.mk (GViewID.mk 0 0) 0 [])] 0 [] [] 0 0) (GState.mk (GViewID.mk 0 0) 0 [])).2.1).length:Nat):Int):Int) = 1)) = true:=(by rw [hmm24,hmm5]; decide +kernel)
 have hp135:(((((MB.inn mm21.m (GFrame.mk 3 1 (GViewID.mk 1 0) 0 (GViewID.mk 0 0) (GViewID.mk 0 0) [(GState.mk (GViewID.mk 0 0) 0 [])] 0 [] [] 0 0) (GState.mk (GViewID.mk 0 0) 0 [])).2.1).length:Nat):Int):Int) = 1:=of_decide_eq_true hc135
 refine g_yes (yk 78 true rfl rfl hc135) ?_
 refine st (v:=v101) (x_move (.tmp rfl rfl)) ?_
 refine g_yes (yk 78 true rfl rfl hc135) ?_
 obtain ⟨g136,c137,hv138⟩:=ok102.pos (by omega)
 obtain ⟨e139,cs140,hx141,hr142,hsub143⟩:=Kn.rows_get (i:=0) hk105 (by omega)
 obtain ⟨A159,n160,c161,A164,n165,c166,A168,n169,c170,rfl,⟨b144,b145⟩,b146,⟨b147,b148⟩,b149,⟨b150,b151⟩,b152,b153,⟨b154,b155⟩,b156,⟨b157,b158⟩,hl162,b163,hl167,hl171,b172,b173⟩:=hr142
 have:=hl162.len; have:n160 * 48 ≤ 140737488351232:=hl162.bnd; have:=hl162.le
 have:=hl167.len; have:n165 * 24 ≤ 140737488351232:=hl167.bnd; have:=hl167.le
 have:=hl171.len; have:n169 * 32 ≤ 140737488351232:=hl171.bnd; have:=hl171.le
 have hk_e139:=el_eval (fun o:GOut => o.F.Kind) 5 hx141 (by rw [hmm24,hmm5]; decide +kernel)
 have hk2_e139:e139.F.Kind = 5:=hk_e139
 refine st (v:=.pointer (some ⟨g136,(0 * 16),none⟩)) (ixo27 (.tmp rfl hv138) rfl (i:=0) .const (by omega) (by omega) (by omega)) ?_
 refine g_yes (yk 78 true rfl rfl hc135) ?_
 refine st (v:=.pointer (some ⟨g136,(0 * 16) + 1,none⟩)) (fa53_1 (.tmp rfl rfl)) ?_
 refine g_yes (yk 78 true rfl rfl hc135) ?_
 refine st (v:=.pointer (some ⟨g136,(0 * 16) + 1 + 0,none⟩)) (fa51_0 (.tmp rfl rfl)) ?_
 refine g_yes (yk 78 true rfl rfl hc135) ?_
 refine st (v:=.int .u8 ((e139.F.Kind:Nat):Int)) (ld5 (.tmp rfl rfl) ((hs112.rowAt 0 rfl hv138 (0 * 16) hsub143).cell 1 rfl)) ?_
 refine g_yes (yk 78 true rfl rfl hc135) ?_
 refine st (v:=.bool (decide ((((e139.F.Kind:Nat):Int):Int) = 5))) (x_eql (k:=.u8) (a:=((e139.F.Kind:Nat):Int)) (b:=5) (.tmp rfl rfl) .const) ?_
 refine st (v:=.bool (decide ((((e139.F.Kind:Nat):Int):Int) = 5))) (x_pick_t (.tmp rfl (cVb hc135)) (.tmp rfl rfl)) ?_
 refine st (v:=.bool (decide ((((e139.F.Kind:Nat):Int):Int) = 5))) (x_move (.tmp rfl rfl)) ?_
 have hc174:(decide ((((e139.F.Kind:Nat):Int):Int) = 5)) = true:=(decide_eq_true (by omega))
 have hp174:(((e139.F.Kind:Nat):Int):Int) = 5:=of_decide_eq_true hc174
 refine g_yes (yk 86 true rfl rfl hc174) ?_
 refine st (v:=.pointer (some ⟨mm108.g,0,none⟩)) (x_move (.tmp rfl ((congrArg (fun z => Value.pointer (some ⟨z,0,none⟩)) hmg23.symm).trans (congrArg (fun z => Value.pointer (some ⟨z,0,none⟩)) hmg110.symm)))) ?_
 refine g_yes (yk 86 true rfl rfl hc174) ?_
 have hs175:St H99 _ (MM.res 78 81 37 mm108 ++ (row 53 16 v101 (((MB.inn mm21.m (GFrame.mk 3 1 (GViewID.mk 1 0) 0 (GViewID.mk 0 0) (GViewID.mk 0 0) [(GState.mk (GViewID.mk 0 0) 0 [])] 0 [] [] 0 0) (GState.mk (GViewID.mk 0 0) 0 [])).2.1).length) cs104::row 53 16 v14 (((MB.tick mm3.m 3 (GState.mk (GViewID.mk 0 0) 0 [])).2.1).length) cs17::L)):=St.upL [row 53 16 v101 (((MB.inn mm21.m (GFrame.mk 3 1 (GViewID.mk 1 0) 0 (GViewID.mk 0 0) (GViewID.mk 0 0) [(GState.mk (GViewID.mk 0 0) 0 [])] 0 [] [] 0 0) (GState.mk (GViewID.mk 0 0) 0 [])).2.1).length) cs104,row 53 16 v14 (((MB.tick mm3.m 3 (GState.mk (GViewID.mk 0 0) 0 [])).2.1).length) cs17] hs112
 refine st_c cb15 .func (evs1 (.tmp rfl rfl)) (opn_mm hs175 (x:=mm108) mok109 ) ?_
 rintro e w176 ⟨rfl,hs177⟩
 refine ⟨_,rfl,?_⟩
 have hs178:St H99 _ (row 53 16 v101 (((MB.inn mm21.m (GFrame.mk 3 1 (GViewID.mk 1 0) 0 (GViewID.mk 0 0) (GViewID.mk 0 0) [(GState.mk (GViewID.mk 0 0) 0 [])] 0 [] [] 0 0) (GState.mk (GViewID.mk 0 0) 0 [])).2.1).length) cs104::row 53 16 v14 (((MB.tick mm3.m 3 (GState.mk (GViewID.mk 0 0) 0 [])).2.1).length) cs17::MM.res 78 81 37 mm108 ++ (L)):=St.downL [row 53 16 v101 (((MB.inn mm21.m (GFrame.mk 3 1 (GViewID.mk 1 0) 0 (GViewID.mk 0 0) (GViewID.mk 0 0) [(GState.mk (GViewID.mk 0 0) 0 [])] 0 [] [] 0 0) (GState.mk (GViewID.mk 0 0) 0 [])).2.1).length) cs104,row 53 16 v14 (((MB.tick mm3.m 3 (GState.mk (GViewID.mk 0 0) 0 [])).2.1).length) cs17] hs177
 refine st (v:=.bool mm108.m.opn) (x_pick_t (.tmp rfl (cVb hc174)) (.tmp rfl rfl)) ?_
 refine st (v:=.bool mm108.m.opn) (x_assign (.tmp rfl rfl)) ?_
 refine c_nil (n_then (c_ret (leave_ret (res_one (v:=.bool mm108.m.opn) rfl (.mk rfl rfl)) ?_)))
 have hyes:mm108.m.opn = true:=(by rw [hmm111,hmm24,hmm5]; decide +kernel)
 rw [hyes]
 exact ⟨rfl,((St.dropL [] hs178.drop.drop).weaken ((hle13.trans hle87).trans hle100))⟩
end Go.Proofs.YtcccaihjgoaehaaDoor

set_option linter.unusedVariables false
set_option linter.unusedSimpArgs false
namespace Go.Proofs.YtcccaihjgoaehaaDoor
open Go Go.FM Go.Proofs
attribute [local irreducible] wpList wpQuiet wpS Code.wp Calls
set_option maxHeartbeats 8000000 in
theorem refuses_law {H:Hp} {w:World} {L:List Res} (hs:St H w (L)) (a:GViewID) {k_a:List Value} (h_a:kViewID.rep H a k_a) (b:GViewID) {k_b:List Value} (h_b:kViewID.rep H b k_b) (set:Nat) (b_set:set < 65536) (htab:Tab H):Calls Tryd.prog 4 #[.agg k_a.toArray,.agg k_b.toArray,.int .u16 ((set:Nat):Int)] w (fun e w' => e = .returned (.bool true)∧St H w' (L)):=by
 obtain ⟨rfl,b1,⟨b2,b3⟩⟩:=h_a
 obtain ⟨rfl,b4,⟨b5,b6⟩⟩:=h_b
 refine enter (args:=[.agg #[.int .u64 ((a.N:Nat):Int),.int .i64 a.P],.agg #[.int .u64 ((b.N:Nat):Int),.int .i64 b.P],.int .u16 ((set:Nat):Int)]) (N:=177) Tryd.func4 rfl rfl rfl ?_
 refine c_seq (c_region (st_m (m_box (cs:=[.int .u64 ((a.N:Nat):Int),.int .i64 a.P]) hs (v:=.agg #[.int .u64 ((a.N:Nat):Int),.int .i64 a.P]) (.tmp rfl rfl) rfl) ?_))
 rintro _ w8 ⟨g7,rfl,hs10⟩
 refine st_m (m_box (cs:=[.int .u64 ((b.N:Nat):Int),.int .i64 b.P]) hs10 (v:=.agg #[.int .u64 ((b.N:Nat):Int),.int .i64 b.P]) (.tmp rfl rfl) rfl) ?_
 rintro _ w12 ⟨g11,rfl,hs14⟩
 refine st (v:=.bool false) (x_assign .const) ?_
 refine c_nil (n_then (c_seq (c_seq (c_region (st_c cb10 .func (evs0 ) (awake_spec hs14  htab) ?_)))))
 rintro e w15 ⟨rfl,hs16⟩
 refine ⟨_,rfl,?_⟩
 refine st (v:=.bool false) (x_not (b:=true) (.tmp rfl rfl)) ?_
 refine st (v:=.bool false) (x_move (.tmp rfl rfl)) ?_
 refine g_yes (yl (dj:=18) (b:=false) rfl rfl rfl) ?_
 refine st (v:=.agg #[.int .u64 ((a.N:Nat):Int),.int .i64 a.P]) (ld34 (cs:=[.int .u64 ((a.N:Nat):Int),.int .i64 a.P]) (.tmp rfl rfl) (hs16.at_ 1 rfl (0) rfl) rfl) ?_
 refine g_yes (yl (dj:=18) (b:=false) rfl rfl rfl) ?_
 refine st_c cb16 .func (evs1 (.tmp rfl rfl)) (rform_spec hs16 a.N a.P) ?_
 rintro e w17 ⟨rfl,hs18⟩
 refine ⟨_,rfl,?_⟩
 refine g_yes (yl (dj:=18) (b:=false) rfl rfl rfl) ?_
 refine st (v:=.bool (!(formV a.N a.P))) (x_not (.tmp rfl rfl)) ?_
 refine st (v:=.bool (!(formV a.N a.P))) (x_pick_f (.tmp rfl rfl) (.tmp rfl rfl)) ?_
 refine st (v:=.bool (!(formV a.N a.P))) (x_move (.tmp rfl rfl)) ?_
 refine jw 4 (fun ρ w => ρ 27 = .bool ((!(formV a.N a.P)) || (!(formV b.N b.P)))∧ρ 2 = .int .u16 ((set:Nat):Int)∧ρ 3 = .pointer (some ⟨g7,0,none⟩)∧ρ 4 = .pointer (some ⟨g11,0,none⟩)∧St H w (obj g11 34 [.int .u64 ((b.N:Nat):Int),.int .i64 b.P]::obj g7 34 [.int .u64 ((a.N:Nat):Int),.int .i64 a.P]::L)) ?_ ?_
 rcases Bool.eq_false_or_eq_true (formV a.N a.P) with hc19 | hc19
 refine g_yes (yl (dj:=23) (b:=false) rfl rfl (cVb (by rw [hc19]; rfl))) ?_
 refine st (v:=.agg #[.int .u64 ((b.N:Nat):Int),.int .i64 b.P]) (ld34 (cs:=[.int .u64 ((b.N:Nat):Int),.int .i64 b.P]) (.tmp rfl rfl) (hs18.at_ 0 rfl (0) rfl) rfl) ?_
 refine g_yes (yl (dj:=23) (b:=false) rfl rfl (cVb (by rw [hc19]; rfl))) ?_
 refine st_c cb16 .func (evs1 (.tmp rfl rfl)) (rform_spec hs18 b.N b.P) ?_
 rintro e w20 ⟨rfl,hs21⟩
 refine ⟨_,rfl,?_⟩
 refine g_yes (yl (dj:=23) (b:=false) rfl rfl (cVb (by rw [hc19]; rfl))) ?_
 refine st (v:=.bool (!(formV b.N b.P))) (x_not (.tmp rfl rfl)) ?_
 refine st (v:=.bool (!(formV b.N b.P))) (x_pick_f (.tmp rfl (cVb (by rw [hc19]; rfl))) (.tmp rfl rfl)) ?_
 exact jw_end ⟨(cVb (jor_f (by rw [hc19]; rfl))),rfl,rfl,rfl,hs21⟩
 refine g_no (yl (dj:=23) (b:=true) rfl rfl (cVb (by rw [hc19]; rfl))) rfl ?_
 refine g_no (yl (dj:=23) (b:=true) rfl rfl (cVb (by rw [hc19]; rfl))) rfl ?_
 refine g_no (yl (dj:=23) (b:=true) rfl rfl (cVb (by rw [hc19]; rfl))) rfl ?_
 refine st (v:=.bool true) (x_pick_t (.tmp rfl (cVb (by rw [hc19]; rfl))) .const) ?_
 exact jw_end ⟨(cVb (jor_t (by rw [hc19]; rfl))),rfl,rfl,rfl,hs18⟩
 rintro ρ w ⟨hρ22,hρ23,hρ24,hρ25,hs26⟩
 refine st (v:=.bool ((!(formV a.N a.P)) || (!(formV b.N b.P)))) (x_move (.tmp rfl hρ22)) ?_
 refine jw 4 (fun ρ w => ρ 32 = .bool (((!(formV a.N a.P)) || (!(formV b.N b.P))) || (decide ((((a.N:Nat):Int):Int) = 0)))∧ρ 2 = .int .u16 ((set:Nat):Int)∧ρ 3 = .pointer (some ⟨g7,0,none⟩)∧ρ 4 = .pointer (some ⟨g11,0,none⟩)∧St H w (obj g11 34 [.int .u64 ((b.N:Nat):Int),.int .i64 b.P]::obj g7 34 [.int .u64 ((a.N:Nat):Int),.int .i64 a.P]::L)) ?_ ?_
 rcases Bool.eq_false_or_eq_true ((!(formV a.N a.P)) || (!(formV b.N b.P))) with hc27 | hc27
 have hp27:(¬ ((formV a.N a.P) = true)) ∨ (¬ ((formV b.N b.P) = true)):=((J_or (J_not Iff.rfl) (J_not Iff.rfl))).1 hc27
 refine g_no (yk 28 true rfl rfl hc27) rfl ?_
 refine g_no (yk 28 true rfl rfl hc27) rfl ?_
 refine g_no (yk 28 true rfl rfl hc27) rfl ?_
 refine st (v:=.bool true) (x_pick_t (.tmp rfl (cVb hc27)) .const) ?_
 exact jw_end ⟨(cVb (jor_t hc27)),hρ23,hρ24,hρ25,hs26⟩
 have hp27:¬ ((¬ ((formV a.N a.P) = true)) ∨ (¬ ((formV b.N b.P) = true))):=J_no (J_or (J_not Iff.rfl) (J_not Iff.rfl)) hc27
 refine g_yes (yk 28 false rfl rfl hc27) ?_
 refine st (v:=.pointer (some ⟨g7,0 + 0,none⟩)) (fa34_0 (.tmp rfl hρ24)) ?_
 refine g_yes (yk 28 false rfl rfl hc27) ?_
 refine st (v:=.int .u64 ((a.N:Nat):Int)) (ld32 (.tmp rfl rfl) (hs26.cell 1 rfl (0 + 0) rfl)) ?_
 refine g_yes (yk 28 false rfl rfl hc27) ?_
 refine st (v:=.bool (decide ((((a.N:Nat):Int):Int) = 0))) (x_eql (k:=.u64) (a:=((a.N:Nat):Int)) (b:=0) (.tmp rfl rfl) .const) ?_
 refine st (v:=.bool (decide ((((a.N:Nat):Int):Int) = 0))) (x_pick_f (.tmp rfl (cVb hc27)) (.tmp rfl rfl)) ?_
 exact jw_end ⟨(cVb (jor_f hc27)),hρ23,hρ24,hρ25,hs26⟩
 rintro ρ w ⟨hρ28,hρ29,hρ30,hρ31,hs32⟩
 refine st (v:=.bool (((!(formV a.N a.P)) || (!(formV b.N b.P))) || (decide ((((a.N:Nat):Int):Int) = 0)))) (x_move (.tmp rfl hρ28)) ?_
 refine jw 4 (fun ρ w => ρ 37 = .bool ((((!(formV a.N a.P)) || (!(formV b.N b.P))) || (decide ((((a.N:Nat):Int):Int) = 0))) || (decide ((((b.N:Nat):Int):Int) = 0)))∧ρ 2 = .int .u16 ((set:Nat):Int)∧ρ 3 = .pointer (some ⟨g7,0,none⟩)∧ρ 4 = .pointer (some ⟨g11,0,none⟩)∧St H w (obj g11 34 [.int .u64 ((b.N:Nat):Int),.int .i64 b.P]::obj g7 34 [.int .u64 ((a.N:Nat):Int),.int .i64 a.P]::L)) ?_ ?_
 rcases Bool.eq_false_or_eq_true (((!(formV a.N a.P)) || (!(formV b.N b.P))) || (decide ((((a.N:Nat):Int):Int) = 0))) with hc33 | hc33
 have hp33:((¬ ((formV a.N a.P) = true)) ∨ (¬ ((formV b.N b.P) = true))) ∨ ((((a.N:Nat):Int):Int) = 0):=((J_or (J_or (J_not Iff.rfl) (J_not Iff.rfl)) decide_eq_true_iff)).1 hc33
 refine g_no (yk 33 true rfl rfl hc33) rfl ?_
 refine g_no (yk 33 true rfl rfl hc33) rfl ?_
 refine g_no (yk 33 true rfl rfl hc33) rfl ?_
 refine st (v:=.bool true) (x_pick_t (.tmp rfl (cVb hc33)) .const) ?_
 exact jw_end ⟨(cVb (jor_t hc33)),hρ29,hρ30,hρ31,hs32⟩
 have hp33:¬ (((¬ ((formV a.N a.P) = true)) ∨ (¬ ((formV b.N b.P) = true))) ∨ ((((a.N:Nat):Int):Int) = 0)):=J_no (J_or (J_or (J_not Iff.rfl) (J_not Iff.rfl)) decide_eq_true_iff) hc33
 refine g_yes (yk 33 false rfl rfl hc33) ?_
 refine st (v:=.pointer (some ⟨g11,0 + 0,none⟩)) (fa34_0 (.tmp rfl hρ31)) ?_
 refine g_yes (yk 33 false rfl rfl hc33) ?_
 refine st (v:=.int .u64 ((b.N:Nat):Int)) (ld32 (.tmp rfl rfl) (hs32.cell 0 rfl (0 + 0) rfl)) ?_
 refine g_yes (yk 33 false rfl rfl hc33) ?_
 refine st (v:=.bool (decide ((((b.N:Nat):Int):Int) = 0))) (x_eql (k:=.u64) (a:=((b.N:Nat):Int)) (b:=0) (.tmp rfl rfl) .const) ?_
 refine st (v:=.bool (decide ((((b.N:Nat):Int):Int) = 0))) (x_pick_f (.tmp rfl (cVb hc33)) (.tmp rfl rfl)) ?_
 exact jw_end ⟨(cVb (jor_f hc33)),hρ29,hρ30,hρ31,hs32⟩
 rintro ρ w ⟨hρ34,hρ35,hρ36,hρ37,hs38⟩
 refine st (v:=.bool ((((!(formV a.N a.P)) || (!(formV b.N b.P))) || (decide ((((a.N:Nat):Int):Int) = 0))) || (decide ((((b.N:Nat):Int):Int) = 0)))) (x_move (.tmp rfl hρ34)) ?_
 refine jw 4 (fun ρ w => ρ 42 = .bool (((((!(formV a.N a.P)) || (!(formV b.N b.P))) || (decide ((((a.N:Nat):Int):Int) = 0))) || (decide ((((b.N:Nat):Int):Int) = 0))) || (decide ((a.P:Int) = 0)))∧ρ 2 = .int .u16 ((set:Nat):Int)∧ρ 3 = .pointer (some ⟨g7,0,none⟩)∧ρ 4 = .pointer (some ⟨g11,0,none⟩)∧St H w (obj g11 34 [.int .u64 ((b.N:Nat):Int),.int .i64 b.P]::obj g7 34 [.int .u64 ((a.N:Nat):Int),.int .i64 a.P]::L)) ?_ ?_
 rcases Bool.eq_false_or_eq_true ((((!(formV a.N a.P)) || (!(formV b.N b.P))) || (decide ((((a.N:Nat):Int):Int) = 0))) || (decide ((((b.N:Nat):Int):Int) = 0))) with hc39 | hc39
 have hp39:(((¬ ((formV a.N a.P) = true)) ∨ (¬ ((formV b.N b.P) = true))) ∨ ((((a.N:Nat):Int):Int) = 0)) ∨ ((((b.N:Nat):Int):Int) = 0):=((J_or (J_or (J_or (J_not Iff.rfl) (J_not Iff.rfl)) decide_eq_true_iff) decide_eq_true_iff)).1 hc39
 refine g_no (yk 38 true rfl rfl hc39) rfl ?_
 refine g_no (yk 38 true rfl rfl hc39) rfl ?_
 refine g_no (yk 38 true rfl rfl hc39) rfl ?_
 refine st (v:=.bool true) (x_pick_t (.tmp rfl (cVb hc39)) .const) ?_
 exact jw_end ⟨(cVb (jor_t hc39)),hρ35,hρ36,hρ37,hs38⟩
 have hp39:¬ ((((¬ ((formV a.N a.P) = true)) ∨ (¬ ((formV b.N b.P) = true))) ∨ ((((a.N:Nat):Int):Int) = 0)) ∨ ((((b.N:Nat):Int):Int) = 0)):=J_no (J_or (J_or (J_or (J_not Iff.rfl) (J_not Iff.rfl)) decide_eq_true_iff) decide_eq_true_iff) hc39
 refine g_yes (yk 38 false rfl rfl hc39) ?_
 refine st (v:=.pointer (some ⟨g7,0 + 1,none⟩)) (fa34_1 (.tmp rfl hρ36)) ?_
 refine g_yes (yk 38 false rfl rfl hc39) ?_
 refine st (v:=.int .i64 a.P) (ld3 (.tmp rfl rfl) (hs38.cell 1 rfl (0 + 1) rfl)) ?_
 refine g_yes (yk 38 false rfl rfl hc39) ?_
 refine st (v:=.bool (decide ((a.P:Int) = 0))) (x_eql (k:=.i64) (a:=a.P) (b:=0) (.tmp rfl rfl) .const) ?_
 refine st (v:=.bool (decide ((a.P:Int) = 0))) (x_pick_f (.tmp rfl (cVb hc39)) (.tmp rfl rfl)) ?_
 exact jw_end ⟨(cVb (jor_f hc39)),hρ35,hρ36,hρ37,hs38⟩
 rintro ρ w ⟨hρ40,hρ41,hρ42,hρ43,hs44⟩
 refine st (v:=.bool (((((!(formV a.N a.P)) || (!(formV b.N b.P))) || (decide ((((a.N:Nat):Int):Int) = 0))) || (decide ((((b.N:Nat):Int):Int) = 0))) || (decide ((a.P:Int) = 0)))) (x_move (.tmp rfl hρ40)) ?_
 refine jw 4 (fun ρ w => ρ 47 = .bool ((((((!(formV a.N a.P)) || (!(formV b.N b.P))) || (decide ((((a.N:Nat):Int):Int) = 0))) || (decide ((((b.N:Nat):Int):Int) = 0))) || (decide ((a.P:Int) = 0))) || (decide ((b.P:Int) = 0)))∧ρ 2 = .int .u16 ((set:Nat):Int)∧ρ 3 = .pointer (some ⟨g7,0,none⟩)∧ρ 4 = .pointer (some ⟨g11,0,none⟩)∧St H w (obj g11 34 [.int .u64 ((b.N:Nat):Int),.int .i64 b.P]::obj g7 34 [.int .u64 ((a.N:Nat):Int),.int .i64 a.P]::L)) ?_ ?_
 rcases Bool.eq_false_or_eq_true (((((!(formV a.N a.P)) || (!(formV b.N b.P))) || (decide ((((a.N:Nat):Int):Int) = 0))) || (decide ((((b.N:Nat):Int):Int) = 0))) || (decide ((a.P:Int) = 0))) with hc45 | hc45
 have hp45:((((¬ ((formV a.N a.P) = true)) ∨ (¬ ((formV b.N b.P) = true))) ∨ ((((a.N:Nat):Int):Int) = 0)) ∨ ((((b.N:Nat):Int):Int) = 0)) ∨ ((a.P:Int) = 0):=((J_or (J_or (J_or (J_or (J_not Iff.rfl) (J_not Iff.rfl)) decide_eq_true_iff) decide_eq_true_iff) decide_eq_true_iff)).1 hc45
 refine g_no (yk 43 true rfl rfl hc45) rfl ?_
 refine g_no (yk 43 true rfl rfl hc45) rfl ?_
 refine g_no (yk 43 true rfl rfl hc45) rfl ?_
 refine st (v:=.bool true) (x_pick_t (.tmp rfl (cVb hc45)) .const) ?_
 exact jw_end ⟨(cVb (jor_t hc45)),hρ41,hρ42,hρ43,hs44⟩
 have hp45:¬ (((((¬ ((formV a.N a.P) = true)) ∨ (¬ ((formV b.N b.P) = true))) ∨ ((((a.N:Nat):Int):Int) = 0)) ∨ ((((b.N:Nat):Int):Int) = 0)) ∨ ((a.P:Int) = 0)):=J_no (J_or (J_or (J_or (J_or (J_not Iff.rfl) (J_not Iff.rfl)) decide_eq_true_iff) decide_eq_true_iff) decide_eq_true_iff) hc45
 refine g_yes (yk 43 false rfl rfl hc45) ?_
 refine st (v:=.pointer (some ⟨g11,0 + 1,none⟩)) (fa34_1 (.tmp rfl hρ43)) ?_
 refine g_yes (yk 43 false rfl rfl hc45) ?_
 refine st (v:=.int .i64 b.P) (ld3 (.tmp rfl rfl) (hs44.cell 0 rfl (0 + 1) rfl)) ?_
 refine g_yes (yk 43 false rfl rfl hc45) ?_
 refine st (v:=.bool (decide ((b.P:Int) = 0))) (x_eql (k:=.i64) (a:=b.P) (b:=0) (.tmp rfl rfl) .const) ?_
 refine st (v:=.bool (decide ((b.P:Int) = 0))) (x_pick_f (.tmp rfl (cVb hc45)) (.tmp rfl rfl)) ?_
 exact jw_end ⟨(cVb (jor_f hc45)),hρ41,hρ42,hρ43,hs44⟩
 rintro ρ w ⟨hρ46,hρ47,hρ48,hρ49,hs50⟩
 refine c_nil (n_then ?_)
 rcases Bool.eq_false_or_eq_true ((((((!(formV a.N a.P)) || (!(formV b.N b.P))) || (decide ((((a.N:Nat):Int):Int) = 0))) || (decide ((((b.N:Nat):Int):Int) = 0))) || (decide ((a.P:Int) = 0))) || (decide ((b.P:Int) = 0))) with hc51 | hc51
 have hp51:(((((¬ ((formV a.N a.P) = true)) ∨ (¬ ((formV b.N b.P) = true))) ∨ ((((a.N:Nat):Int):Int) = 0)) ∨ ((((b.N:Nat):Int):Int) = 0)) ∨ ((a.P:Int) = 0)) ∨ ((b.P:Int) = 0):=((J_or (J_or (J_or (J_or (J_or (J_not Iff.rfl) (J_not Iff.rfl)) decide_eq_true_iff) decide_eq_true_iff) decide_eq_true_iff) decide_eq_true_iff)).1 hc51
 refine c_cond_t (t:=true) (.tmp rfl (hρ46.trans (cVb hc51))) rfl ?_
 refine c_seq (c_region (st_c cb10 .func (evs0 ) (awake_spec hs50  htab) ?_))
 rintro e w52 ⟨rfl,hs53⟩
 refine ⟨_,rfl,?_⟩
 refine st (v:=.bool true) (x_assign (.tmp rfl rfl)) ?_
 refine c_nil (n_then (c_ret (r_then (leave_ret (res_one (v:=.bool true) rfl (.mk rfl rfl)) ?_))))
 exact ⟨rfl,hs53.drop.drop⟩
 have hp51:¬ ((((((¬ ((formV a.N a.P) = true)) ∨ (¬ ((formV b.N b.P) = true))) ∨ ((((a.N:Nat):Int):Int) = 0)) ∨ ((((b.N:Nat):Int):Int) = 0)) ∨ ((a.P:Int) = 0)) ∨ ((b.P:Int) = 0)):=J_no (J_or (J_or (J_or (J_or (J_or (J_not Iff.rfl) (J_not Iff.rfl)) decide_eq_true_iff) decide_eq_true_iff) decide_eq_true_iff) decide_eq_true_iff) hc51
 refine c_cond_f (t:=false) (.tmp rfl (hρ46.trans (cVb hc51))) rfl ?_
 refine c_skip (n_then (c_seq (c_region (st_c cb11 .func (evs2 .const .const) (new_mm hs50 16 0 (by omega) (by omega) (by omega)) ?_))))
 rintro e w54 ⟨mm56,rfl,mok57,hmm58,hs55⟩
 refine ⟨_,rfl,?_⟩
 have hs60:St H _ (obj g11 34 [.int .u64 ((b.N:Nat):Int),.int .i64 b.P]::obj g7 34 [.int .u64 ((a.N:Nat):Int),.int .i64 a.P]::MM.res 78 81 37 mm56 ++ (L)):=St.downL [obj g11 34 [.int .u64 ((b.N:Nat):Int),.int .i64 b.P],obj g7 34 [.int .u64 ((a.N:Nat):Int),.int .i64 a.P]] hs55
 refine st (v:=.tuple #[.pointer (some ⟨mm56.g,0,none⟩),.int .i64 0]) (x_move (.tmp rfl rfl)) ?_
 refine st (v:=.pointer (some ⟨mm56.g,0,none⟩)) (x_extract (.tmp rfl rfl) (i:=0) rfl) ?_
 refine st (v:=.int .i64 0) (x_extract (.tmp rfl rfl) (i:=1) rfl) ?_
 refine st (v:=.pointer (some ⟨mm56.g,0,none⟩)) (x_assign (.tmp rfl rfl)) ?_
 refine st (v:=.int .i64 0) (x_assign (.tmp rfl rfl)) ?_
 refine c_nil (n_then (c_seq (q_region mixed hs60 (by kernel_rfl) ?_)))
 refine q_st (v:=.int .u16 ((set:Nat):Int)) (fun w hs => (x_move (.tmp rfl hρ47))) ?_
 refine q_c (v:=.int .u16 (((wth set 0):Nat):Int)) cb13 .func (evs2 (.tmp rfl rfl) .const) (fun w hs => rwith_spec hs set 0 b_set (by omega)) ?_
 refine q_st (v:=.pointer (some ⟨g7,0 + 1,none⟩)) (fun w hs => (fa34_1 (.tmp rfl hρ48))) ?_
 refine q_st (v:=.int .i64 a.P) (fun w hs => (ld3 (.tmp rfl rfl) (hs.cell 1 rfl (0 + 1) rfl))) ?_
 refine q_c (v:=.int .u16 (((wth (wth set 0) a.P):Nat):Int)) cb13 .func (evs2 (.tmp rfl rfl) (.tmp rfl rfl)) (fun w hs => rwith_spec hs (wth set 0) a.P (wth_lt b_set 0) (by omega)) ?_
 refine q_st (v:=.pointer (some ⟨g11,0 + 1,none⟩)) (fun w hs => (fa34_1 (.tmp rfl hρ49))) ?_
 refine q_st (v:=.int .i64 b.P) (fun w hs => (ld3 (.tmp rfl rfl) (hs.cell 0 rfl (0 + 1) rfl))) ?_
 refine q_c (v:=.int .u16 (((wth (wth (wth set 0) a.P) b.P):Nat):Int)) cb13 .func (evs2 (.tmp rfl rfl) (.tmp rfl rfl)) (fun w hs => rwith_spec hs (wth (wth set 0) a.P) b.P (wth_lt (wth_lt b_set 0) a.P) (by omega)) ?_
 refine q_st (v:=.int .u16 (((wth (wth (wth set 0) a.P) b.P):Nat):Int)) (fun w hs => (x_assign (.tmp rfl rfl))) ?_
 refine q_nil ?_
 intro w hs61
 refine n_then (c_seq (c_region (st (v:=.pointer (some ⟨mm56.g,0,none⟩)) (x_move (.tmp rfl rfl)) ?_)))
 refine st (v:=.pointer (some ⟨g7,0 + 1,none⟩)) (fa34_1 (.tmp rfl hρ48)) ?_
 refine st (v:=.int .i64 a.P) (ld3 (.tmp rfl rfl) (hs61.cell 1 rfl (0 + 1) rfl)) ?_
 refine st (v:=.agg #[.int .u64 ((a.N:Nat):Int),.int .i64 a.P]) (ld34 (cs:=[.int .u64 ((a.N:Nat):Int),.int .i64 a.P]) (.tmp rfl hρ48) (hs61.at_ 1 rfl (0) rfl) rfl) ?_
 refine st (v:=.int .u16 (((wth (wth (wth set 0) a.P) b.P):Nat):Int)) (x_move (.tmp rfl rfl)) ?_
 refine st (v:=.agg #[.int .u8 2,.int .i64 a.P,.int .u64 ((a.N:Nat):Int),.int .i64 a.P,.int .u16 (((wth (wth (wth set 0) a.P) b.P):Nat):Int),.int .u64 0,.int .i64 0,.int .u64 0,.int .i64 0,.slice none 0 0,.int .u64 0,.slice none 0 0,.slice none 0 0,.int .u64 0,.int .u64 0]) (bl51 (ps:=[(0,.int .u8 2),(1,.int .i64 a.P),(2,.agg #[.int .u64 ((a.N:Nat):Int),.int .i64 a.P]),(3,.int .u16 (((wth (wth (wth set 0) a.P) b.P):Nat):Int))]) (.cons .const (.cons (.tmp rfl rfl) (.cons (.tmp rfl rfl) (.cons (.tmp rfl rfl) Evp.nil)))) rfl) ?_
 refine st (v:=.agg #[.int .u64 0,.int .i64 0,.int .i64 0,.slice none 0 0]) (bl37 (ps:=[]) Evp.nil rfl) ?_
 have hs62:St H _ (MM.res 78 81 37 mm56 ++ (obj g11 34 [.int .u64 ((b.N:Nat):Int),.int .i64 b.P]::obj g7 34 [.int .u64 ((a.N:Nat):Int),.int .i64 a.P]::L)):=St.upL [obj g11 34 [.int .u64 ((b.N:Nat):Int),.int .i64 b.P],obj g7 34 [.int .u64 ((a.N:Nat):Int),.int .i64 a.P]] hs61
 have hr63:kFrame.rep H (GFrame.mk 2 a.P a (wth (wth (wth set 0) a.P) b.P) (GViewID.mk 0 0) (GViewID.mk 0 0) [] 0 [] [] 0 0) [.int .u8 2,.int .i64 a.P,.int .u64 ((a.N:Nat):Int),.int .i64 a.P,.int .u16 (((wth (wth (wth set 0) a.P) b.P):Nat):Int),.int .u64 0,.int .i64 0,.int .u64 0,.int .i64 0,.slice none 0 0,.int .u64 0,.slice none 0 0,.slice none 0 0,.int .u64 0,.int .u64 0]:=⟨none,0,0,none,0,0,none,0,0,rfl,(show 2 < 256 from by omega),⟨b2,b3⟩,b1,⟨b2,b3⟩,(wth_lt (wth_lt (wth_lt b_set 0) a.P) b.P),(show 0 < 18446744073709551616 from by omega),(show IB 0 from ⟨by omega,by omega⟩),(show 0 < 18446744073709551616 from by omega),(show IB 0 from ⟨by omega,by omega⟩),(Sl.nil _ _ none),(show 0 < 18446744073709551616 from by omega),(Sl.nil _ _ none),(Sl.nil _ _ none),(show 0 < 18446744073709551616 from by omega),(show 0 < 18446744073709551616 from by omega)⟩
 have hr64:kState.rep H (GState.mk (GViewID.mk 0 0) 0 []) [.int .u64 0,.int .i64 0,.int .i64 0,.slice none 0 0]:=⟨none,0,0,rfl,(show 0 < 18446744073709551616 from by omega),(show IB 0 from ⟨by omega,by omega⟩),(show IB 0 from ⟨by omega,by omega⟩),(Sl.nil _ _ none)⟩
 refine st_c cb17 .func (evs3 (.tmp rfl rfl) (.tmp rfl rfl) (.tmp rfl rfl)) (in_mm hs62 (x:=mm56) mok57 (GFrame.mk 2 a.P a (wth (wth (wth set 0) a.P) b.P) (GViewID.mk 0 0) (GViewID.mk 0 0) [] 0 [] [] 0 0) hr63 (GState.mk (GViewID.mk 0 0) 0 []) hr64 (fun p hp => by rw [hmm58] at hp; cases hp) htab) ?_
 rintro e w65 ⟨H67,v69,cs72,iv74,mm76,hle68,rfl,ok70,hk73,hin75,mok77,hmg78,hmm79,hs66⟩
 refine ⟨_,rfl,?_⟩
 have hs81:=St.upL [row 53 16 v69 (((MB.inn mm56.m (GFrame.mk 2 a.P a (wth (wth (wth set 0) a.P) b.P) (GViewID.mk 0 0) (GViewID.mk 0 0) [] 0 [] [] 0 0) (GState.mk (GViewID.mk 0 0) 0 [])).2.1).length) cs72] hs66
 have hs80:St H67 _ (row 53 16 v69 (((MB.inn mm56.m (GFrame.mk 2 a.P a (wth (wth (wth set 0) a.P) b.P) (GViewID.mk 0 0) (GViewID.mk 0 0) [] 0 [] [] 0 0) (GState.mk (GViewID.mk 0 0) 0 [])).2.1).length) cs72::obj g11 34 [.int .u64 ((b.N:Nat):Int),.int .i64 b.P]::obj g7 34 [.int .u64 ((a.N:Nat):Int),.int .i64 a.P]::MM.res 78 81 37 mm76 ++ (L)):=St.downL [row 53 16 v69 (((MB.inn mm56.m (GFrame.mk 2 a.P a (wth (wth (wth set 0) a.P) b.P) (GViewID.mk 0 0) (GViewID.mk 0 0) [] 0 [] [] 0 0) (GState.mk (GViewID.mk 0 0) 0 [])).2.1).length) cs72,obj g11 34 [.int .u64 ((b.N:Nat):Int),.int .i64 b.P],obj g7 34 [.int .u64 ((a.N:Nat):Int),.int .i64 a.P]] hs81
 refine st (v:=.tuple #[v69,iv74,.int .i64 ((MB.inn mm56.m (GFrame.mk 2 a.P a (wth (wth (wth set 0) a.P) b.P) (GViewID.mk 0 0) (GViewID.mk 0 0) [] 0 [] [] 0 0) (GState.mk (GViewID.mk 0 0) 0 [])).2.2.2)]) (x_move (.tmp rfl rfl)) ?_
 have hall:1 ≤ a.P∧a.P < 16∧1 ≤ b.P∧b.P < 16∧0 < a.N∧0 < b.N:=by simp only [Bool.or_eq_false_iff,Bool.not_eq_false',formV,decide_eq_true_eq,decide_eq_false_iff_not] at hc51; omega
 obtain ⟨ha1,ha2,hb1,hb2,haN,hbN⟩:=hall
 obtain ⟨hs0,hsa,hsb,hsl⟩:=ref_s (set:=set) (a:=a) (b:=b) b_set (by omega) (by omega)
 have hR1:MB.inn mm56.m (fPro a (wth (wth (wth set 0) a.P) b.P)) (GState.mk (GViewID.mk 0 0) 0 []) = (refM a (max 0 a.N),[GOut.mk a.P (frAccept 0 a (GState.mk (GViewID.mk 0 0) 0 []))],none,0):=by rw [hmm58]; exact ref_first (by omega) (by omega) hs0 hsa hsl
 have hM:mm76.m = refM a (max 0 a.N):=by rw [hmm79]; exact congrArg Prod.fst hR1
 refine st (v:=v69) (x_extract (.tmp rfl rfl) (i:=0) rfl) ?_
 refine st (v:=iv74) (x_extract (.tmp rfl rfl) (i:=1) rfl) ?_
 refine st (v:=.int .i64 ((MB.inn mm56.m (GFrame.mk 2 a.P a (wth (wth (wth set 0) a.P) b.P) (GViewID.mk 0 0) (GViewID.mk 0 0) [] 0 [] [] 0 0) (GState.mk (GViewID.mk 0 0) 0 [])).2.2.2)) (x_extract (.tmp rfl rfl) (i:=2) rfl) ?_
 refine st (v:=v69) (x_assign (.tmp rfl rfl)) ?_
 refine st (v:=iv74) (x_assign (.tmp rfl rfl)) ?_
 refine st (v:=.int .i64 ((MB.inn mm56.m (GFrame.mk 2 a.P a (wth (wth (wth set 0) a.P) b.P) (GViewID.mk 0 0) (GViewID.mk 0 0) [] 0 [] [] 0 0) (GState.mk (GViewID.mk 0 0) 0 [])).2.2.2)) (x_assign (.tmp rfl rfl)) ?_
 refine c_nil (n_then (c_seq (c_region (st (v:=.pointer (some ⟨mm76.g,0,none⟩)) (x_move (.tmp rfl (congrArg (fun z => Value.pointer (some ⟨z,0,none⟩)) hmg78.symm))) ?_))))
 refine st (v:=.pointer (some ⟨g11,0 + 1,none⟩)) (fa34_1 (.tmp rfl hρ49)) ?_
 refine st (v:=.int .i64 b.P) (ld3 (.tmp rfl rfl) (hs80.cell 1 rfl (0 + 1) rfl)) ?_
 refine st (v:=.agg #[.int .u64 ((b.N:Nat):Int),.int .i64 b.P]) (ld34 (cs:=[.int .u64 ((b.N:Nat):Int),.int .i64 b.P]) (.tmp rfl hρ49) (hs80.at_ 1 rfl (0) rfl) rfl) ?_
 refine st (v:=.int .u16 (((wth (wth (wth set 0) a.P) b.P):Nat):Int)) (x_move (.tmp rfl rfl)) ?_
 refine st (v:=.agg #[.int .u8 2,.int .i64 b.P,.int .u64 ((b.N:Nat):Int),.int .i64 b.P,.int .u16 (((wth (wth (wth set 0) a.P) b.P):Nat):Int),.int .u64 0,.int .i64 0,.int .u64 0,.int .i64 0,.slice none 0 0,.int .u64 0,.slice none 0 0,.slice none 0 0,.int .u64 0,.int .u64 0]) (bl51 (ps:=[(0,.int .u8 2),(1,.int .i64 b.P),(2,.agg #[.int .u64 ((b.N:Nat):Int),.int .i64 b.P]),(3,.int .u16 (((wth (wth (wth set 0) a.P) b.P):Nat):Int))]) (.cons .const (.cons (.tmp rfl rfl) (.cons (.tmp rfl rfl) (.cons (.tmp rfl rfl) Evp.nil)))) rfl) ?_
 refine st (v:=.agg #[.int .u64 0,.int .i64 0,.int .i64 0,.slice none 0 0]) (bl37 (ps:=[]) Evp.nil rfl) ?_
 have hs82:St H67 _ (MM.res 78 81 37 mm76 ++ (row 53 16 v69 (((MB.inn mm56.m (GFrame.mk 2 a.P a (wth (wth (wth set 0) a.P) b.P) (GViewID.mk 0 0) (GViewID.mk 0 0) [] 0 [] [] 0 0) (GState.mk (GViewID.mk 0 0) 0 [])).2.1).length) cs72::obj g11 34 [.int .u64 ((b.N:Nat):Int),.int .i64 b.P]::obj g7 34 [.int .u64 ((a.N:Nat):Int),.int .i64 a.P]::L)):=St.upL [row 53 16 v69 (((MB.inn mm56.m (GFrame.mk 2 a.P a (wth (wth (wth set 0) a.P) b.P) (GViewID.mk 0 0) (GViewID.mk 0 0) [] 0 [] [] 0 0) (GState.mk (GViewID.mk 0 0) 0 [])).2.1).length) cs72,obj g11 34 [.int .u64 ((b.N:Nat):Int),.int .i64 b.P],obj g7 34 [.int .u64 ((a.N:Nat):Int),.int .i64 a.P]] hs80
 have hr83:kFrame.rep H67 (GFrame.mk 2 b.P b (wth (wth (wth set 0) a.P) b.P) (GViewID.mk 0 0) (GViewID.mk 0 0) [] 0 [] [] 0 0) [.int .u8 2,.int .i64 b.P,.int .u64 ((b.N:Nat):Int),.int .i64 b.P,.int .u16 (((wth (wth (wth set 0) a.P) b.P):Nat):Int),.int .u64 0,.int .i64 0,.int .u64 0,.int .i64 0,.slice none 0 0,.int .u64 0,.slice none 0 0,.slice none 0 0,.int .u64 0,.int .u64 0]:=⟨none,0,0,none,0,0,none,0,0,rfl,(show 2 < 256 from by omega),⟨b5,b6⟩,b4,⟨b5,b6⟩,(wth_lt (wth_lt (wth_lt b_set 0) a.P) b.P),(show 0 < 18446744073709551616 from by omega),(show IB 0 from ⟨by omega,by omega⟩),(show 0 < 18446744073709551616 from by omega),(show IB 0 from ⟨by omega,by omega⟩),(Sl.nil _ _ none),(show 0 < 18446744073709551616 from by omega),(Sl.nil _ _ none),(Sl.nil _ _ none),(show 0 < 18446744073709551616 from by omega),(show 0 < 18446744073709551616 from by omega)⟩
 have hr84:kState.rep H67 (GState.mk (GViewID.mk 0 0) 0 []) [.int .u64 0,.int .i64 0,.int .i64 0,.slice none 0 0]:=⟨none,0,0,rfl,(show 0 < 18446744073709551616 from by omega),(show IB 0 from ⟨by omega,by omega⟩),(show IB 0 from ⟨by omega,by omega⟩),(Sl.nil _ _ none)⟩
 refine st_c cb17 .func (evs3 (.tmp rfl rfl) (.tmp rfl rfl) (.tmp rfl rfl)) (in_mm hs82 (x:=mm76) mok77 (GFrame.mk 2 b.P b (wth (wth (wth set 0) a.P) b.P) (GViewID.mk 0 0) (GViewID.mk 0 0) [] 0 [] [] 0 0) hr83 (GState.mk (GViewID.mk 0 0) 0 []) hr84 (fun p hp => by rw [hM] at hp; cases hp) (htab.mono hle68)) ?_
 rintro e w85 ⟨H87,v89,cs92,iv94,mm96,hle88,rfl,ok90,hk93,hin95,mok97,hmg98,hmm99,hs86⟩
 refine ⟨_,rfl,?_⟩
 have hs101:=St.upL [row 53 16 v89 (((MB.inn mm76.m (GFrame.mk 2 b.P b (wth (wth (wth set 0) a.P) b.P) (GViewID.mk 0 0) (GViewID.mk 0 0) [] 0 [] [] 0 0) (GState.mk (GViewID.mk 0 0) 0 [])).2.1).length) cs92] hs86
 have hs100:St H87 _ (row 53 16 v89 (((MB.inn mm76.m (GFrame.mk 2 b.P b (wth (wth (wth set 0) a.P) b.P) (GViewID.mk 0 0) (GViewID.mk 0 0) [] 0 [] [] 0 0) (GState.mk (GViewID.mk 0 0) 0 [])).2.1).length) cs92::row 53 16 v69 (((MB.inn mm56.m (GFrame.mk 2 a.P a (wth (wth (wth set 0) a.P) b.P) (GViewID.mk 0 0) (GViewID.mk 0 0) [] 0 [] [] 0 0) (GState.mk (GViewID.mk 0 0) 0 [])).2.1).length) cs72::obj g11 34 [.int .u64 ((b.N:Nat):Int),.int .i64 b.P]::obj g7 34 [.int .u64 ((a.N:Nat):Int),.int .i64 a.P]::MM.res 78 81 37 mm96 ++ (L)):=St.downL [row 53 16 v89 (((MB.inn mm76.m (GFrame.mk 2 b.P b (wth (wth (wth set 0) a.P) b.P) (GViewID.mk 0 0) (GViewID.mk 0 0) [] 0 [] [] 0 0) (GState.mk (GViewID.mk 0 0) 0 [])).2.1).length) cs92,row 53 16 v69 (((MB.inn mm56.m (GFrame.mk 2 a.P a (wth (wth (wth set 0) a.P) b.P) (GViewID.mk 0 0) (GViewID.mk 0 0) [] 0 [] [] 0 0) (GState.mk (GViewID.mk 0 0) 0 [])).2.1).length) cs72,obj g11 34 [.int .u64 ((b.N:Nat):Int),.int .i64 b.P],obj g7 34 [.int .u64 ((a.N:Nat):Int),.int .i64 a.P]] hs101
 refine st (v:=.tuple #[v89,iv94,.int .i64 ((MB.inn mm76.m (GFrame.mk 2 b.P b (wth (wth (wth set 0) a.P) b.P) (GViewID.mk 0 0) (GViewID.mk 0 0) [] 0 [] [] 0 0) (GState.mk (GViewID.mk 0 0) 0 [])).2.2.2)]) (x_move (.tmp rfl rfl)) ?_
 have hlow:cmpV b.N b.P a.N a.P < 0 → MB.inn mm76.m (fPro b (wth (wth (wth set 0) a.P) b.P)) (GState.mk (GViewID.mk 0 0) 0 []) = (refM a (max (max 0 a.N) b.N),[GOut.mk b.P (frRefuse 0 b a)],none,9):=fun h => by rw [hM]; exact ref_low (by omega) hs0 hsb hsl h
 have hhigh:¬ cmpV b.N b.P a.N a.P < 0 → MB.inn mm76.m (fPro b (wth (wth (wth set 0) a.P) b.P)) (GState.mk (GViewID.mk 0 0) 0 []) = (refM b (max (max 0 a.N) b.N),[GOut.mk b.P (frAccept 0 b (GState.mk (GViewID.mk 0 0) 0 []))],none,0):=fun h => by rw [hM]; exact ref_high (by omega) (by omega) hs0 hsb hsl h
 have hy1:(MB.inn mm76.m (fPro b (wth (wth (wth set 0) a.P) b.P)) (GState.mk (GViewID.mk 0 0) 0 [])).2.1.length = 1:=by by_cases h:cmpV b.N b.P a.N a.P < 0; rw [hlow h]; rfl; rw [hhigh h]; rfl
 refine st (v:=v89) (x_extract (.tmp rfl rfl) (i:=0) rfl) ?_
 refine st (v:=iv94) (x_extract (.tmp rfl rfl) (i:=1) rfl) ?_
 refine st (v:=.int .i64 ((MB.inn mm76.m (GFrame.mk 2 b.P b (wth (wth (wth set 0) a.P) b.P) (GViewID.mk 0 0) (GViewID.mk 0 0) [] 0 [] [] 0 0) (GState.mk (GViewID.mk 0 0) 0 [])).2.2.2)) (x_extract (.tmp rfl rfl) (i:=2) rfl) ?_
 refine st (v:=v89) (x_assign (.tmp rfl rfl)) ?_
 refine st (v:=iv94) (x_assign (.tmp rfl rfl)) ?_
 refine st (v:=.int .i64 ((MB.inn mm76.m (GFrame.mk 2 b.P b (wth (wth (wth set 0) a.P) b.P) (GViewID.mk 0 0) (GViewID.mk 0 0) [] 0 [] [] 0 0) (GState.mk (GViewID.mk 0 0) 0 [])).2.2.2)) (x_assign (.tmp rfl rfl)) ?_
 refine c_nil (n_then (c_seq (c_seq (q_region mixed hs100 (by kernel_rfl) ?_))))
 refine q_st (v:=.int .i64 0) (fun w hs => (x_move (.tmp rfl rfl))) ?_
 refine q_st (v:=.bool false) (fun w hs => (x_neq (k:=.i64) (a:=0) (b:=0) (.tmp rfl rfl) .const)) ?_
 refine q_st (v:=.bool false) (fun w hs => (x_move (.tmp rfl rfl))) ?_
 refine q_yes (yl (dj:=87) (b:=false) rfl rfl rfl) ?_
 refine q_st (v:=.int .i64 ((MB.inn mm56.m (GFrame.mk 2 a.P a (wth (wth (wth set 0) a.P) b.P) (GViewID.mk 0 0) (GViewID.mk 0 0) [] 0 [] [] 0 0) (GState.mk (GViewID.mk 0 0) 0 [])).2.2.2)) (fun w hs => (x_move (.tmp rfl rfl))) ?_
 refine q_yes (yl (dj:=87) (b:=false) rfl rfl rfl) ?_
 refine q_st (v:=.bool (decide ((((MB.inn mm56.m (GFrame.mk 2 a.P a (wth (wth (wth set 0) a.P) b.P) (GViewID.mk 0 0) (GViewID.mk 0 0) [] 0 [] [] 0 0) (GState.mk (GViewID.mk 0 0) 0 [])).2.2.2):Int) ≠ 0))) (fun w hs => (x_neq (k:=.i64) (a:=((MB.inn mm56.m (GFrame.mk 2 a.P a (wth (wth (wth set 0) a.P) b.P) (GViewID.mk 0 0) (GViewID.mk 0 0) [] 0 [] [] 0 0) (GState.mk (GViewID.mk 0 0) 0 [])).2.2.2)) (b:=0) (.tmp rfl rfl) .const)) ?_
 refine q_st (v:=.bool (decide ((((MB.inn mm56.m (GFrame.mk 2 a.P a (wth (wth (wth set 0) a.P) b.P) (GViewID.mk 0 0) (GViewID.mk 0 0) [] 0 [] [] 0 0) (GState.mk (GViewID.mk 0 0) 0 [])).2.2.2):Int) ≠ 0))) (fun w hs => (x_pick_f (.tmp rfl rfl) (.tmp rfl rfl))) ?_
 refine q_st (v:=.bool (decide ((((MB.inn mm56.m (GFrame.mk 2 a.P a (wth (wth (wth set 0) a.P) b.P) (GViewID.mk 0 0) (GViewID.mk 0 0) [] 0 [] [] 0 0) (GState.mk (GViewID.mk 0 0) 0 [])).2.2.2):Int) ≠ 0))) (fun w hs => (x_move (.tmp rfl rfl))) ?_
 have hc102:(decide ((((MB.inn mm56.m (GFrame.mk 2 a.P a (wth (wth (wth set 0) a.P) b.P) (GViewID.mk 0 0) (GViewID.mk 0 0) [] 0 [] [] 0 0) (GState.mk (GViewID.mk 0 0) 0 [])).2.2.2):Int) ≠ 0)) = false:=(decide_eq_false (by rw [show (MB.inn mm56.m (GFrame.mk 2 a.P a (wth (wth (wth set 0) a.P) b.P) (GViewID.mk 0 0) (GViewID.mk 0 0) [] 0 [] [] 0 0) (GState.mk (GViewID.mk 0 0) 0 [])).2.2.2 = _ from congrArg (fun q => q.2.2.2) hR1]; simp))
 have hp102:¬ ((((MB.inn mm56.m (GFrame.mk 2 a.P a (wth (wth (wth set 0) a.P) b.P) (GViewID.mk 0 0) (GViewID.mk 0 0) [] 0 [] [] 0 0) (GState.mk (GViewID.mk 0 0) 0 [])).2.2.2):Int) ≠ 0):=of_decide_eq_false hc102
 refine q_yes (yk 91 false rfl rfl hc102) ?_
 refine q_st (v:=v69) (fun w hs => (x_move (.tmp rfl rfl))) ?_
 refine q_yes (yk 91 false rfl rfl hc102) ?_
 obtain ⟨A103,c104,hv105,hc106⟩:=ok70.slice
 refine q_st (v:=.int .i64 ((((MB.inn mm56.m (GFrame.mk 2 a.P a (wth (wth (wth set 0) a.P) b.P) (GViewID.mk 0 0) (GViewID.mk 0 0) [] 0 [] [] 0 0) (GState.mk (GViewID.mk 0 0) 0 [])).2.1).length:Nat):Int)) (fun w hs => (x_len (n:=((MB.inn mm56.m (GFrame.mk 2 a.P a (wth (wth (wth set 0) a.P) b.P) (GViewID.mk 0 0) (GViewID.mk 0 0) [] 0 [] [] 0 0) (GState.mk (GViewID.mk 0 0) 0 [])).2.1).length) Tryd.underlying27 (.tmp rfl hv105))) ?_
 refine q_yes (yk 91 false rfl rfl hc102) ?_
 refine q_st (v:=.bool (decide ((((((MB.inn mm56.m (GFrame.mk 2 a.P a (wth (wth (wth set 0) a.P) b.P) (GViewID.mk 0 0) (GViewID.mk 0 0) [] 0 [] [] 0 0) (GState.mk (GViewID.mk 0 0) 0 [])).2.1).length:Nat):Int):Int) ≠ 1))) (fun w hs => (x_neq (k:=.i64) (a:=((((MB.inn mm56.m (GFrame.mk 2 a.P a (wth (wth (wth set 0) a.P) b.P) (GViewID.mk 0 0) (GViewID.mk 0 0) [] 0 [] [] 0 0) (GState.mk (GViewID.mk 0 0) 0 [])).2.1).length:Nat):Int)) (b:=1) (.tmp rfl rfl) .const)) ?_
 refine q_st (v:=.bool (decide ((((((MB.inn mm56.m (GFrame.mk 2 a.P a (wth (wth (wth set 0) a.P) b.P) (GViewID.mk 0 0) (GViewID.mk 0 0) [] 0 [] [] 0 0) (GState.mk (GViewID.mk 0 0) 0 [])).2.1).length:Nat):Int):Int) ≠ 1))) (fun w hs => (x_pick_f (.tmp rfl (cVb hc102)) (.tmp rfl rfl))) ?_
 refine q_st (v:=.bool (decide ((((((MB.inn mm56.m (GFrame.mk 2 a.P a (wth (wth (wth set 0) a.P) b.P) (GViewID.mk 0 0) (GViewID.mk 0 0) [] 0 [] [] 0 0) (GState.mk (GViewID.mk 0 0) 0 [])).2.1).length:Nat):Int):Int) ≠ 1))) (fun w hs => (x_move (.tmp rfl rfl))) ?_
 have hc107:(decide ((((((MB.inn mm56.m (GFrame.mk 2 a.P a (wth (wth (wth set 0) a.P) b.P) (GViewID.mk 0 0) (GViewID.mk 0 0) [] 0 [] [] 0 0) (GState.mk (GViewID.mk 0 0) 0 [])).2.1).length:Nat):Int):Int) ≠ 1)) = false:=(decide_eq_false (by rw [show (MB.inn mm56.m (GFrame.mk 2 a.P a (wth (wth (wth set 0) a.P) b.P) (GViewID.mk 0 0) (GViewID.mk 0 0) [] 0 [] [] 0 0) (GState.mk (GViewID.mk 0 0) 0 [])).2.1 = _ from congrArg (fun q => q.2.1) hR1]; simp))
 have hp107:¬ ((((((MB.inn mm56.m (GFrame.mk 2 a.P a (wth (wth (wth set 0) a.P) b.P) (GViewID.mk 0 0) (GViewID.mk 0 0) [] 0 [] [] 0 0) (GState.mk (GViewID.mk 0 0) 0 [])).2.1).length:Nat):Int):Int) ≠ 1):=of_decide_eq_false hc107
 refine q_yes (yk 96 false rfl rfl hc107) ?_
 refine q_st (v:=v69) (fun w hs => (x_move (.tmp rfl rfl))) ?_
 refine q_yes (yk 96 false rfl rfl hc107) ?_
 obtain ⟨g108,c109,hv110⟩:=ok70.pos (by omega)
 obtain ⟨e111,cs112,hx113,hr114,hsub115⟩:=Kn.rows_get (i:=0) (Kn.rows_mono hk73 hle88) (by omega)
 obtain ⟨A131,n132,c133,A136,n137,c138,A140,n141,c142,rfl,⟨b116,b117⟩,b118,⟨b119,b120⟩,b121,⟨b122,b123⟩,b124,b125,⟨b126,b127⟩,b128,⟨b129,b130⟩,hl134,b135,hl139,hl143,b144,b145⟩:=hr114
 have:=hl134.len; have:n132 * 48 ≤ 140737488351232:=hl134.bnd; have:=hl134.le
 have:=hl139.len; have:n137 * 24 ≤ 140737488351232:=hl139.bnd; have:=hl139.le
 have:=hl143.len; have:n141 * 32 ≤ 140737488351232:=hl143.bnd; have:=hl143.le
 have hk_e111:e111.F.Kind = 3:=by have h9:=hx113; rw [show ((MB.inn mm56.m (GFrame.mk 2 a.P a (wth (wth (wth set 0) a.P) b.P) (GViewID.mk 0 0) (GViewID.mk 0 0) [] 0 [] [] 0 0) (GState.mk (GViewID.mk 0 0) 0 [])).2.1) = _ from congrArg (fun q => q.2.1) hR1] at h9; exact (congrArg (fun o:GOut => o.F.Kind) (Option.some.inj h9)).symm
 refine q_st (v:=.pointer (some ⟨g108,(0 * 16),none⟩)) (fun w hs => (ixo27 (.tmp rfl hv110) rfl (i:=0) .const (by omega) (by omega) (by omega))) ?_
 refine q_yes (yk 96 false rfl rfl hc107) ?_
 refine q_st (v:=.pointer (some ⟨g108,(0 * 16) + 1,none⟩)) (fun w hs => (fa53_1 (.tmp rfl rfl))) ?_
 refine q_yes (yk 96 false rfl rfl hc107) ?_
 refine q_st (v:=.pointer (some ⟨g108,(0 * 16) + 1 + 0,none⟩)) (fun w hs => (fa51_0 (.tmp rfl rfl))) ?_
 refine q_yes (yk 96 false rfl rfl hc107) ?_
 refine q_st (v:=.int .u8 ((e111.F.Kind:Nat):Int)) (fun w hs => (ld5 (.tmp rfl rfl) ((hs.rowAt 1 rfl hv110 (0 * 16) hsub115).cell 1 rfl))) ?_
 refine q_yes (yk 96 false rfl rfl hc107) ?_
 refine q_st (v:=.bool (decide ((((e111.F.Kind:Nat):Int):Int) ≠ 3))) (fun w hs => (x_neq (k:=.u8) (a:=((e111.F.Kind:Nat):Int)) (b:=3) (.tmp rfl rfl) .const)) ?_
 refine q_st (v:=.bool (decide ((((e111.F.Kind:Nat):Int):Int) ≠ 3))) (fun w hs => (x_pick_f (.tmp rfl (cVb hc107)) (.tmp rfl rfl))) ?_
 refine q_st (v:=.bool (decide ((((e111.F.Kind:Nat):Int):Int) ≠ 3))) (fun w hs => (x_move (.tmp rfl rfl))) ?_
 have hc146:(decide ((((e111.F.Kind:Nat):Int):Int) ≠ 3)) = false:=(decide_eq_false (by omega))
 have hp146:¬ ((((e111.F.Kind:Nat):Int):Int) ≠ 3):=of_decide_eq_false hc146
 refine q_yes (yk 104 false rfl rfl hc146) ?_
 refine q_st (v:=v89) (fun w hs => (x_move (.tmp rfl rfl))) ?_
 refine q_yes (yk 104 false rfl rfl hc146) ?_
 obtain ⟨A147,c148,hv149,hc150⟩:=ok90.slice
 refine q_st (v:=.int .i64 ((((MB.inn mm76.m (GFrame.mk 2 b.P b (wth (wth (wth set 0) a.P) b.P) (GViewID.mk 0 0) (GViewID.mk 0 0) [] 0 [] [] 0 0) (GState.mk (GViewID.mk 0 0) 0 [])).2.1).length:Nat):Int)) (fun w hs => (x_len (n:=((MB.inn mm76.m (GFrame.mk 2 b.P b (wth (wth (wth set 0) a.P) b.P) (GViewID.mk 0 0) (GViewID.mk 0 0) [] 0 [] [] 0 0) (GState.mk (GViewID.mk 0 0) 0 [])).2.1).length) Tryd.underlying27 (.tmp rfl hv149))) ?_
 refine q_yes (yk 104 false rfl rfl hc146) ?_
 refine q_st (v:=.bool (decide ((((((MB.inn mm76.m (GFrame.mk 2 b.P b (wth (wth (wth set 0) a.P) b.P) (GViewID.mk 0 0) (GViewID.mk 0 0) [] 0 [] [] 0 0) (GState.mk (GViewID.mk 0 0) 0 [])).2.1).length:Nat):Int):Int) ≠ 1))) (fun w hs => (x_neq (k:=.i64) (a:=((((MB.inn mm76.m (GFrame.mk 2 b.P b (wth (wth (wth set 0) a.P) b.P) (GViewID.mk 0 0) (GViewID.mk 0 0) [] 0 [] [] 0 0) (GState.mk (GViewID.mk 0 0) 0 [])).2.1).length:Nat):Int)) (b:=1) (.tmp rfl rfl) .const)) ?_
 refine q_st (v:=.bool (decide ((((((MB.inn mm76.m (GFrame.mk 2 b.P b (wth (wth (wth set 0) a.P) b.P) (GViewID.mk 0 0) (GViewID.mk 0 0) [] 0 [] [] 0 0) (GState.mk (GViewID.mk 0 0) 0 [])).2.1).length:Nat):Int):Int) ≠ 1))) (fun w hs => (x_pick_f (.tmp rfl (cVb hc146)) (.tmp rfl rfl))) ?_
 refine q_st (v:=.bool (decide ((((((MB.inn mm76.m (GFrame.mk 2 b.P b (wth (wth (wth set 0) a.P) b.P) (GViewID.mk 0 0) (GViewID.mk 0 0) [] 0 [] [] 0 0) (GState.mk (GViewID.mk 0 0) 0 [])).2.1).length:Nat):Int):Int) ≠ 1))) (fun w hs => (x_move (.tmp rfl rfl))) ?_
 have hc151:(decide ((((((MB.inn mm76.m (GFrame.mk 2 b.P b (wth (wth (wth set 0) a.P) b.P) (GViewID.mk 0 0) (GViewID.mk 0 0) [] 0 [] [] 0 0) (GState.mk (GViewID.mk 0 0) 0 [])).2.1).length:Nat):Int):Int) ≠ 1)) = false:=(decide_eq_false (fun hne => hne (congrArg (fun n:Nat => (n:Int)) hy1)))
 have hp151:¬ ((((((MB.inn mm76.m (GFrame.mk 2 b.P b (wth (wth (wth set 0) a.P) b.P) (GViewID.mk 0 0) (GViewID.mk 0 0) [] 0 [] [] 0 0) (GState.mk (GViewID.mk 0 0) 0 [])).2.1).length:Nat):Int):Int) ≠ 1):=of_decide_eq_false hc151
 refine q_yes (yk 109 false rfl rfl hc151) ?_
 refine q_st (v:=v89) (fun w hs => (x_move (.tmp rfl rfl))) ?_
 refine q_yes (yk 109 false rfl rfl hc151) ?_
 obtain ⟨g152,c153,hv154⟩:=ok90.pos (by omega)
 obtain ⟨e155,cs156,hx157,hr158,hsub159⟩:=Kn.rows_get (i:=0) hk93 (by omega)
 obtain ⟨A175,n176,c177,A180,n181,c182,A184,n185,c186,rfl,⟨b160,b161⟩,b162,⟨b163,b164⟩,b165,⟨b166,b167⟩,b168,b169,⟨b170,b171⟩,b172,⟨b173,b174⟩,hl178,b179,hl183,hl187,b188,b189⟩:=hr158
 have:=hl178.len; have:n176 * 48 ≤ 140737488351232:=hl178.bnd; have:=hl178.le
 have:=hl183.len; have:n181 * 24 ≤ 140737488351232:=hl183.bnd; have:=hl183.le
 have:=hl187.len; have:n185 * 32 ≤ 140737488351232:=hl187.bnd; have:=hl187.le
 have hel:cmpV b.N b.P a.N a.P < 0 → e155 = GOut.mk b.P (frRefuse 0 b a):=fun hh => (Option.some.inj ((hx157).symm.trans (congrArg (fun q:MB × List GOut × Option GInstall × Int => q.2.1[0]?) (hlow hh)))).trans rfl
 have heh:¬ cmpV b.N b.P a.N a.P < 0 → e155 = GOut.mk b.P (frAccept 0 b (GState.mk (GViewID.mk 0 0) 0 [])):=fun hh => (Option.some.inj ((hx157).symm.trans (congrArg (fun q:MB × List GOut × Option GInstall × Int => q.2.1[0]?) (hhigh hh)))).trans rfl
 have hto:e155.To = b.P:=by by_cases hh:cmpV b.N b.P a.N a.P < 0; rw [hel hh]; rw [heh hh]
 refine q_st (v:=.pointer (some ⟨g152,(0 * 16),none⟩)) (fun w hs => (ixo27 (.tmp rfl hv154) rfl (i:=0) .const (by omega) (by omega) (by omega))) ?_
 refine q_yes (yk 109 false rfl rfl hc151) ?_
 refine q_st (v:=.pointer (some ⟨g152,(0 * 16) + 0,none⟩)) (fun w hs => (fa53_0 (.tmp rfl rfl))) ?_
 refine q_yes (yk 109 false rfl rfl hc151) ?_
 refine q_st (v:=.int .i64 e155.To) (fun w hs => (ld3 (.tmp rfl rfl) ((hs.rowAt 0 rfl hv154 (0 * 16) hsub159).cell 0 rfl))) ?_
 refine q_yes (yk 109 false rfl rfl hc151) ?_
 refine q_st (v:=.pointer (some ⟨g11,0 + 1,none⟩)) (fun w hs => (fa34_1 (.tmp rfl hρ49))) ?_
 refine q_yes (yk 109 false rfl rfl hc151) ?_
 refine q_st (v:=.int .i64 b.P) (fun w hs => (ld3 (.tmp rfl rfl) (hs.cell 2 rfl (0 + 1) rfl))) ?_
 refine q_yes (yk 109 false rfl rfl hc151) ?_
 refine q_st (v:=.bool (decide ((e155.To:Int) ≠ b.P))) (fun w hs => (x_neq (k:=.i64) (a:=e155.To) (b:=b.P) (.tmp rfl rfl) (.tmp rfl rfl))) ?_
 refine q_st (v:=.bool (decide ((e155.To:Int) ≠ b.P))) (fun w hs => (x_pick_f (.tmp rfl (cVb hc151)) (.tmp rfl rfl))) ?_
 refine q_nil ?_
 intro w hs190
 refine n_then ?_
 have hc191:(decide ((e155.To:Int) ≠ b.P)) = false:=(decide_eq_false (fun h => h hto))
 have hp191:¬ ((e155.To:Int) ≠ b.P):=of_decide_eq_false hc191
 refine c_cond_f (t:=false) (.tmp rfl (cVb hc191)) rfl ?_
 refine c_skip (n_then (c_seq (c_seq (c_region (st (v:=.agg #[.int .u64 ((b.N:Nat):Int),.int .i64 b.P]) (ld34 (cs:=[.int .u64 ((b.N:Nat):Int),.int .i64 b.P]) (.tmp rfl hρ49) (hs190.at_ 2 rfl (0) rfl) rfl) ?_)))))
 refine st (v:=.agg #[.int .u64 ((a.N:Nat):Int),.int .i64 a.P]) (ld34 (cs:=[.int .u64 ((a.N:Nat):Int),.int .i64 a.P]) (.tmp rfl hρ48) (hs190.at_ 3 rfl (0) rfl) rfl) ?_
 refine st_c cb18 .func (evs2 (.tmp rfl rfl) (.tmp rfl rfl)) (rcompare_spec hs190 b.N b.P a.N a.P) ?_
 rintro e w192 ⟨rfl,hs193⟩
 refine ⟨_,rfl,?_⟩
 refine st (v:=.bool (decide (((cmpV b.N b.P a.N a.P):Int) < 0))) (x_lss (k:=.i64) (a:=(cmpV b.N b.P a.N a.P)) (b:=0) (.tmp rfl rfl) .const) ?_
 refine c_nil (n_then ?_)
 rcases Bool.eq_false_or_eq_true (decide (((cmpV b.N b.P a.N a.P):Int) < 0)) with hc194 | hc194
 have hp194:((cmpV b.N b.P a.N a.P):Int) < 0:=of_decide_eq_true hc194
 refine c_cond_t (t:=true) (.tmp rfl (cVb hc194)) rfl ?_
 refine c_seq (s_region (L:=row 53 16 v89 (((MB.inn mm76.m (GFrame.mk 2 b.P b (wth (wth (wth set 0) a.P) b.P) (GViewID.mk 0 0) (GViewID.mk 0 0) [] 0 [] [] 0 0) (GState.mk (GViewID.mk 0 0) 0 [])).2.1).length) cs92::row 53 16 v69 (((MB.inn mm56.m (GFrame.mk 2 a.P a (wth (wth (wth set 0) a.P) b.P) (GViewID.mk 0 0) (GViewID.mk 0 0) [] 0 [] [] 0 0) (GState.mk (GViewID.mk 0 0) 0 [])).2.1).length) cs72::obj g11 34 [.int .u64 ((b.N:Nat):Int),.int .i64 b.P]::obj g7 34 [.int .u64 ((a.N:Nat):Int),.int .i64 a.P]::MM.res 78 81 37 mm96 ++ (L)) (L':=row 53 16 v89 (((MB.inn mm76.m (GFrame.mk 2 b.P b (wth (wth (wth set 0) a.P) b.P) (GViewID.mk 0 0) (GViewID.mk 0 0) [] 0 [] [] 0 0) (GState.mk (GViewID.mk 0 0) 0 [])).2.1).length) cs92::row 53 16 v69 (((MB.inn mm56.m (GFrame.mk 2 a.P a (wth (wth (wth set 0) a.P) b.P) (GViewID.mk 0 0) (GViewID.mk 0 0) [] 0 [] [] 0 0) (GState.mk (GViewID.mk 0 0) 0 [])).2.1).length) cs72::obj g11 34 [.int .u64 ((b.N:Nat):Int),.int .i64 b.P]::obj g7 34 [.int .u64 ((a.N:Nat):Int),.int .i64 a.P]::MM.res 78 81 37 mm96 ++ (L)) none [(0,true),(1,true),(2,true),(3,true),(4,true),(5,true),(6,true),(7,true),(8,true),(9,true),(10,true),(11,true),(12,true),(13,true),(14,true),(15,true),(16,true),(17,true),(18,true),(19,true),(20,true),(21,true),(22,true),(23,true),(24,true),(25,true),(26,true),(27,true),(28,true),(29,true),(31,true),(30,false),(32,true),(33,true),(34,true)] mixed hs193 (fun u hu => hu) (by kernel_rfl) ?_)
 intro w195 hs196
 refine s_st (k:=0) (v:=.int .i64 ((MB.inn mm76.m (GFrame.mk 2 b.P b (wth (wth (wth set 0) a.P) b.P) (GViewID.mk 0 0) (GViewID.mk 0 0) [] 0 [] [] 0 0) (GState.mk (GViewID.mk 0 0) 0 [])).2.2.2)) rfl (fun w hs => (x_move (.tmp rfl rfl))) ?_
 refine s_st (k:=1) (v:=.bool (decide ((((MB.inn mm76.m (GFrame.mk 2 b.P b (wth (wth (wth set 0) a.P) b.P) (GViewID.mk 0 0) (GViewID.mk 0 0) [] 0 [] [] 0 0) (GState.mk (GViewID.mk 0 0) 0 [])).2.2.2):Int) = 9))) rfl (fun w hs => (x_eql (k:=.i64) (a:=((MB.inn mm76.m (GFrame.mk 2 b.P b (wth (wth (wth set 0) a.P) b.P) (GViewID.mk 0 0) (GViewID.mk 0 0) [] 0 [] [] 0 0) (GState.mk (GViewID.mk 0 0) 0 [])).2.2.2)) (b:=9) (.tmp rfl rfl) .const)) ?_
 refine s_st (k:=2) (v:=.bool (decide ((((MB.inn mm76.m (GFrame.mk 2 b.P b (wth (wth (wth set 0) a.P) b.P) (GViewID.mk 0 0) (GViewID.mk 0 0) [] 0 [] [] 0 0) (GState.mk (GViewID.mk 0 0) 0 [])).2.2.2):Int) = 9))) rfl (fun w hs => (x_move (.tmp rfl rfl))) ?_
 have hc197:(decide ((((MB.inn mm76.m (GFrame.mk 2 b.P b (wth (wth (wth set 0) a.P) b.P) (GViewID.mk 0 0) (GViewID.mk 0 0) [] 0 [] [] 0 0) (GState.mk (GViewID.mk 0 0) 0 [])).2.2.2):Int) = 9)) = true:=(decide_eq_true (congrArg (fun q:MB × List GOut × Option GInstall × Int => q.2.2.2) (hlow (of_decide_eq_true hc194))))
 have hp197:(((MB.inn mm76.m (GFrame.mk 2 b.P b (wth (wth (wth set 0) a.P) b.P) (GViewID.mk 0 0) (GViewID.mk 0 0) [] 0 [] [] 0 0) (GState.mk (GViewID.mk 0 0) 0 [])).2.2.2):Int) = 9:=of_decide_eq_true hc197
 refine s_yes (k:=3) (v:=v89) rfl (yk 124 true rfl rfl hc197) (fun w hs => (x_move (.tmp rfl rfl))) ?_
 obtain ⟨g198,c199,hv200⟩:=ok90.pos (by omega)
 refine s_yes (k:=4) (v:=.pointer (some ⟨g198,(0 * 16),none⟩)) rfl (yk 124 true rfl rfl hc197) (fun w hs => (ixo27 (.tmp rfl hv200) rfl (i:=0) .const (by omega) (by omega) (by omega))) ?_
 refine s_yes (k:=5) (v:=.pointer (some ⟨g198,(0 * 16) + 1,none⟩)) rfl (yk 124 true rfl rfl hc197) (fun w hs => (fa53_1 (.tmp rfl rfl))) ?_
 refine s_yes (k:=6) (v:=.pointer (some ⟨g198,(0 * 16) + 1 + 0,none⟩)) rfl (yk 124 true rfl rfl hc197) (fun w hs => (fa51_0 (.tmp rfl rfl))) ?_
 refine s_yes (k:=7) (v:=.int .u8 ((e155.F.Kind:Nat):Int)) rfl (yk 124 true rfl rfl hc197) (fun w hs => (ld5 (.tmp rfl rfl) ((hs.rowAt 0 rfl hv200 (0 * 16) hsub159).cell 1 rfl))) ?_
 refine s_yes (k:=8) (v:=.bool (decide ((((e155.F.Kind:Nat):Int):Int) = 4))) rfl (yk 124 true rfl rfl hc197) (fun w hs => (x_eql (k:=.u8) (a:=((e155.F.Kind:Nat):Int)) (b:=4) (.tmp rfl rfl) .const)) ?_
 refine s_st (k:=9) (v:=.bool (decide ((((e155.F.Kind:Nat):Int):Int) = 4))) rfl (fun w hs => (x_pick_t (.tmp rfl (cVb hc197)) (.tmp rfl rfl))) ?_
 refine s_st (k:=10) (v:=.bool (decide ((((e155.F.Kind:Nat):Int):Int) = 4))) rfl (fun w hs => (x_move (.tmp rfl rfl))) ?_
 have hc201:(decide ((((e155.F.Kind:Nat):Int):Int) = 4)) = true:=(decide_eq_true (by rw [hel (of_decide_eq_true hc194)] <;> rfl))
 have hp201:(((e155.F.Kind:Nat):Int):Int) = 4:=of_decide_eq_true hc201
 refine s_yes (k:=11) (v:=v89) rfl (yk 132 true rfl rfl hc201) (fun w hs => (x_move (.tmp rfl rfl))) ?_
 obtain ⟨g202,c203,hv204⟩:=ok90.pos (by omega)
 refine s_yes (k:=12) (v:=.pointer (some ⟨g202,(0 * 16),none⟩)) rfl (yk 132 true rfl rfl hc201) (fun w hs => (ixo27 (.tmp rfl hv204) rfl (i:=0) .const (by omega) (by omega) (by omega))) ?_
 refine s_yes (k:=13) (v:=.pointer (some ⟨g202,(0 * 16) + 1,none⟩)) rfl (yk 132 true rfl rfl hc201) (fun w hs => (fa53_1 (.tmp rfl rfl))) ?_
 refine s_yes (k:=14) (v:=.pointer (some ⟨g202,(0 * 16) + 1 + 7,none⟩)) rfl (yk 132 true rfl rfl hc201) (fun w hs => (fa51_5 (.tmp rfl rfl))) ?_
 refine s_yes (k:=15) (v:=.agg #[.int .u64 ((e155.F.Prom.N:Nat):Int),.int .i64 e155.F.Prom.P]) rfl (yk 132 true rfl rfl hc201) (fun w hs => (ld34 (cs:=[.int .u64 ((e155.F.Prom.N:Nat):Int),.int .i64 e155.F.Prom.P]) (.tmp rfl rfl) ((hs.rowAt 0 rfl hv204 (0 * 16) hsub159).sub 8 rfl) rfl)) ?_
 refine s_yes (k:=16) (v:=.agg #[.int .u64 ((a.N:Nat):Int),.int .i64 a.P]) rfl (yk 132 true rfl rfl hc201) (fun w hs => (ld34 (cs:=[.int .u64 ((a.N:Nat):Int),.int .i64 a.P]) (.tmp rfl hρ48) (hs.at_ 3 rfl (0) rfl) rfl)) ?_
 refine s_yes (k:=17) (v:=.bool ((((e155.F.Prom.N:Nat):Int) == ((a.N:Nat):Int)) && ((e155.F.Prom.P == a.P) && true))) rfl (yk 132 true rfl rfl hc201) (fun w hs => (x_eqlA eqg34 (.tmp rfl rfl) (.tmp rfl rfl) (fun d => eqs34 (d + 98) _ ((e155.F.Prom.N:Nat):Int) ((a.N:Nat):Int) e155.F.Prom.P a.P))) ?_
 refine s_st (k:=18) (v:=.bool (decide (e155.F.Prom = a))) rfl (fun w hs => (x_pick_t (.tmp rfl (cVb hc201)) (.tmp rfl (cVb (GViewID.beq_dec e155.F.Prom a))))) ?_
 refine s_st (k:=19) (v:=.bool (decide (e155.F.Prom = a))) rfl (fun w hs => (x_move (.tmp rfl rfl))) ?_
 have hc205:(decide (e155.F.Prom = a)) = true:=(decide_eq_true (by rw [hel (of_decide_eq_true hc194)] <;> rfl))
 have hp205:e155.F.Prom = a:=of_decide_eq_true hc205
 refine s_yes (k:=20) (v:=v89) rfl (yk 141 true rfl rfl hc205) (fun w hs => (x_move (.tmp rfl rfl))) ?_
 obtain ⟨g206,c207,hv208⟩:=ok90.pos (by omega)
 refine s_yes (k:=21) (v:=.pointer (some ⟨g206,(0 * 16),none⟩)) rfl (yk 141 true rfl rfl hc205) (fun w hs => (ixo27 (.tmp rfl hv208) rfl (i:=0) .const (by omega) (by omega) (by omega))) ?_
 refine s_yes (k:=22) (v:=.pointer (some ⟨g206,(0 * 16) + 1,none⟩)) rfl (yk 141 true rfl rfl hc205) (fun w hs => (fa53_1 (.tmp rfl rfl))) ?_
 refine s_yes (k:=23) (v:=.pointer (some ⟨g206,(0 * 16) + 1 + 2,none⟩)) rfl (yk 141 true rfl rfl hc205) (fun w hs => (fa51_2 (.tmp rfl rfl))) ?_
 refine s_yes (k:=24) (v:=.agg #[.int .u64 ((e155.F.ID.N:Nat):Int),.int .i64 e155.F.ID.P]) rfl (yk 141 true rfl rfl hc205) (fun w hs => (ld34 (cs:=[.int .u64 ((e155.F.ID.N:Nat):Int),.int .i64 e155.F.ID.P]) (.tmp rfl rfl) ((hs.rowAt 0 rfl hv208 (0 * 16) hsub159).sub 3 rfl) rfl)) ?_
 refine s_yes (k:=25) (v:=.agg #[.int .u64 ((b.N:Nat):Int),.int .i64 b.P]) rfl (yk 141 true rfl rfl hc205) (fun w hs => (ld34 (cs:=[.int .u64 ((b.N:Nat):Int),.int .i64 b.P]) (.tmp rfl hρ49) (hs.at_ 2 rfl (0) rfl) rfl)) ?_
 refine s_yes (k:=26) (v:=.bool ((((e155.F.ID.N:Nat):Int) == ((b.N:Nat):Int)) && ((e155.F.ID.P == b.P) && true))) rfl (yk 141 true rfl rfl hc205) (fun w hs => (x_eqlA eqg34 (.tmp rfl rfl) (.tmp rfl rfl) (fun d => eqs34 (d + 98) _ ((e155.F.ID.N:Nat):Int) ((b.N:Nat):Int) e155.F.ID.P b.P))) ?_
 refine s_st (k:=27) (v:=.bool (decide (e155.F.ID = b))) rfl (fun w hs => (x_pick_t (.tmp rfl (cVb hc205)) (.tmp rfl (cVb (GViewID.beq_dec e155.F.ID b))))) ?_
 refine s_st (k:=28) (v:=.bool (decide (e155.F.ID = b))) rfl (fun w hs => (x_move (.tmp rfl rfl))) ?_
 have hc209:(decide (e155.F.ID = b)) = true:=(decide_eq_true (by rw [hel (of_decide_eq_true hc194)] <;> rfl))
 have hp209:e155.F.ID = b:=of_decide_eq_true hc209
 refine s_yes (k:=29) (v:=.pointer (some ⟨mm96.g,0,none⟩)) rfl (yk 150 true rfl rfl hc209) (fun w hs => (x_move (.tmp rfl ((congrArg (fun z => Value.pointer (some ⟨z,0,none⟩)) hmg78.symm).trans (congrArg (fun z => Value.pointer (some ⟨z,0,none⟩)) hmg98.symm))))) ?_
 refine s_yes (k:=31) (v:=.agg #[.int .u64 ((a.N:Nat):Int),.int .i64 a.P]) rfl (yk 150 true rfl rfl hc209) (fun w hs => (ld34 (cs:=[.int .u64 ((a.N:Nat):Int),.int .i64 a.P]) (.tmp rfl hρ48) (hs.at_ 3 rfl (0) rfl) rfl)) ?_
 refine s_eff (k:=30) rfl ?_
 refine g_yes (yk 150 true rfl rfl hc209) ?_
 have hs210:St H87 _ (MM.res 78 81 37 mm96 ++ (row 53 16 v89 (((MB.inn mm76.m (GFrame.mk 2 b.P b (wth (wth (wth set 0) a.P) b.P) (GViewID.mk 0 0) (GViewID.mk 0 0) [] 0 [] [] 0 0) (GState.mk (GViewID.mk 0 0) 0 [])).2.1).length) cs92::row 53 16 v69 (((MB.inn mm56.m (GFrame.mk 2 a.P a (wth (wth (wth set 0) a.P) b.P) (GViewID.mk 0 0) (GViewID.mk 0 0) [] 0 [] [] 0 0) (GState.mk (GViewID.mk 0 0) 0 [])).2.1).length) cs72::obj g11 34 [.int .u64 ((b.N:Nat):Int),.int .i64 b.P]::obj g7 34 [.int .u64 ((a.N:Nat):Int),.int .i64 a.P]::L)):=St.upL [row 53 16 v89 (((MB.inn mm76.m (GFrame.mk 2 b.P b (wth (wth (wth set 0) a.P) b.P) (GViewID.mk 0 0) (GViewID.mk 0 0) [] 0 [] [] 0 0) (GState.mk (GViewID.mk 0 0) 0 [])).2.1).length) cs92,row 53 16 v69 (((MB.inn mm56.m (GFrame.mk 2 a.P a (wth (wth (wth set 0) a.P) b.P) (GViewID.mk 0 0) (GViewID.mk 0 0) [] 0 [] [] 0 0) (GState.mk (GViewID.mk 0 0) 0 [])).2.1).length) cs72,obj g11 34 [.int .u64 ((b.N:Nat):Int),.int .i64 b.P],obj g7 34 [.int .u64 ((a.N:Nat):Int),.int .i64 a.P]] hs196
 refine st_c cb19 .func (evs1 (.tmp rfl rfl)) (prom_mm hs210 (x:=mm96) mok97 ) ?_
 rintro e w211 ⟨cs213,rfl,hr214,hs212⟩
 obtain ⟨rfl,b215,⟨b216,b217⟩⟩:=hr214
 refine ⟨_,rfl,?_⟩
 have hs218:St H87 _ (row 53 16 v89 (((MB.inn mm76.m (GFrame.mk 2 b.P b (wth (wth (wth set 0) a.P) b.P) (GViewID.mk 0 0) (GViewID.mk 0 0) [] 0 [] [] 0 0) (GState.mk (GViewID.mk 0 0) 0 [])).2.1).length) cs92::row 53 16 v69 (((MB.inn mm56.m (GFrame.mk 2 a.P a (wth (wth (wth set 0) a.P) b.P) (GViewID.mk 0 0) (GViewID.mk 0 0) [] 0 [] [] 0 0) (GState.mk (GViewID.mk 0 0) 0 [])).2.1).length) cs72::obj g11 34 [.int .u64 ((b.N:Nat):Int),.int .i64 b.P]::obj g7 34 [.int .u64 ((a.N:Nat):Int),.int .i64 a.P]::MM.res 78 81 37 mm96 ++ (L)):=St.downL [row 53 16 v89 (((MB.inn mm76.m (GFrame.mk 2 b.P b (wth (wth (wth set 0) a.P) b.P) (GViewID.mk 0 0) (GViewID.mk 0 0) [] 0 [] [] 0 0) (GState.mk (GViewID.mk 0 0) 0 [])).2.1).length) cs92,row 53 16 v69 (((MB.inn mm56.m (GFrame.mk 2 a.P a (wth (wth (wth set 0) a.P) b.P) (GViewID.mk 0 0) (GViewID.mk 0 0) [] 0 [] [] 0 0) (GState.mk (GViewID.mk 0 0) 0 [])).2.1).length) cs72,obj g11 34 [.int .u64 ((b.N:Nat):Int),.int .i64 b.P],obj g7 34 [.int .u64 ((a.N:Nat):Int),.int .i64 a.P]] hs212
 refine s_on (S':=fun u => St H87 u (row 53 16 v89 (((MB.inn mm76.m (GFrame.mk 2 b.P b (wth (wth (wth set 0) a.P) b.P) (GViewID.mk 0 0) (GViewID.mk 0 0) [] 0 [] [] 0 0) (GState.mk (GViewID.mk 0 0) 0 [])).2.1).length) cs92::row 53 16 v69 (((MB.inn mm56.m (GFrame.mk 2 a.P a (wth (wth (wth set 0) a.P) b.P) (GViewID.mk 0 0) (GViewID.mk 0 0) [] 0 [] [] 0 0) (GState.mk (GViewID.mk 0 0) 0 [])).2.1).length) cs72::obj g11 34 [.int .u64 ((b.N:Nat):Int),.int .i64 b.P]::obj g7 34 [.int .u64 ((a.N:Nat):Int),.int .i64 a.P]::MM.res 78 81 37 mm96 ++ (L))) (fun u hu => hu) hs218 ?_
 refine s_yes (k:=32) (v:=.bool ((((mm96.m.prom.N:Nat):Int) == ((a.N:Nat):Int)) && ((mm96.m.prom.P == a.P) && true))) rfl (yk 150 true rfl rfl hc209) (fun w hs => (x_eqlA eqg34 (.tmp rfl rfl) (.tmp rfl rfl) (fun d => eqs34 (d + 98) _ ((mm96.m.prom.N:Nat):Int) ((a.N:Nat):Int) mm96.m.prom.P a.P))) ?_
 refine s_st (k:=33) (v:=.bool (decide (mm96.m.prom = a))) rfl (fun w hs => (x_pick_t (.tmp rfl (cVb hc209)) (.tmp rfl (cVb (GViewID.beq_dec mm96.m.prom a))))) ?_
 refine s_st (k:=34) (v:=.bool (decide (mm96.m.prom = a))) rfl (fun w hs => (x_assign (.tmp rfl rfl))) ?_
 refine s_nil ?_
 refine n_then (c_ret (r_then (leave_ret (res_one (v:=.bool (decide (mm96.m.prom = a))) rfl (.mk rfl rfl)) ?_)))
 have hyes:(decide (mm96.m.prom = a)) = true:=(decide_eq_true ((congrArg MB.prom hmm99).trans (congrArg (fun q:MB × List GOut × Option GInstall × Int => q.1.prom) (hlow (of_decide_eq_true hc194)))))
 rw [hyes]
 exact ⟨rfl,((St.dropL [] hs218.drop.drop.drop.drop).weaken (hle68.trans hle88))⟩
 have hp194:¬ (((cmpV b.N b.P a.N a.P):Int) < 0):=of_decide_eq_false hc194
 refine c_cond_f (t:=false) (.tmp rfl (cVb hc194)) rfl ?_
 refine c_skip (n_then (c_seq (s_region (L:=row 53 16 v89 (((MB.inn mm76.m (GFrame.mk 2 b.P b (wth (wth (wth set 0) a.P) b.P) (GViewID.mk 0 0) (GViewID.mk 0 0) [] 0 [] [] 0 0) (GState.mk (GViewID.mk 0 0) 0 [])).2.1).length) cs92::row 53 16 v69 (((MB.inn mm56.m (GFrame.mk 2 a.P a (wth (wth (wth set 0) a.P) b.P) (GViewID.mk 0 0) (GViewID.mk 0 0) [] 0 [] [] 0 0) (GState.mk (GViewID.mk 0 0) 0 [])).2.1).length) cs72::obj g11 34 [.int .u64 ((b.N:Nat):Int),.int .i64 b.P]::obj g7 34 [.int .u64 ((a.N:Nat):Int),.int .i64 a.P]::MM.res 78 81 37 mm96 ++ (L)) (L':=row 53 16 v89 (((MB.inn mm76.m (GFrame.mk 2 b.P b (wth (wth (wth set 0) a.P) b.P) (GViewID.mk 0 0) (GViewID.mk 0 0) [] 0 [] [] 0 0) (GState.mk (GViewID.mk 0 0) 0 [])).2.1).length) cs92::row 53 16 v69 (((MB.inn mm56.m (GFrame.mk 2 a.P a (wth (wth (wth set 0) a.P) b.P) (GViewID.mk 0 0) (GViewID.mk 0 0) [] 0 [] [] 0 0) (GState.mk (GViewID.mk 0 0) 0 [])).2.1).length) cs72::obj g11 34 [.int .u64 ((b.N:Nat):Int),.int .i64 b.P]::obj g7 34 [.int .u64 ((a.N:Nat):Int),.int .i64 a.P]::MM.res 78 81 37 mm96 ++ (L)) none [(0,true),(1,true),(2,true),(3,true),(4,true),(5,true),(6,true),(7,true),(8,true),(9,true),(10,true),(11,true),(13,true),(12,false),(14,true),(15,true),(16,true),(17,true),(18,false),(19,true),(20,true),(21,true)] mixed hs193 (fun u hu => hu) (by kernel_rfl) ?_)))
 intro w219 hs220
 refine s_st (k:=0) (v:=.int .i64 ((MB.inn mm76.m (GFrame.mk 2 b.P b (wth (wth (wth set 0) a.P) b.P) (GViewID.mk 0 0) (GViewID.mk 0 0) [] 0 [] [] 0 0) (GState.mk (GViewID.mk 0 0) 0 [])).2.2.2)) rfl (fun w hs => (x_move (.tmp rfl rfl))) ?_
 refine s_st (k:=1) (v:=.bool (decide ((((MB.inn mm76.m (GFrame.mk 2 b.P b (wth (wth (wth set 0) a.P) b.P) (GViewID.mk 0 0) (GViewID.mk 0 0) [] 0 [] [] 0 0) (GState.mk (GViewID.mk 0 0) 0 [])).2.2.2):Int) = 0))) rfl (fun w hs => (x_eql (k:=.i64) (a:=((MB.inn mm76.m (GFrame.mk 2 b.P b (wth (wth (wth set 0) a.P) b.P) (GViewID.mk 0 0) (GViewID.mk 0 0) [] 0 [] [] 0 0) (GState.mk (GViewID.mk 0 0) 0 [])).2.2.2)) (b:=0) (.tmp rfl rfl) .const)) ?_
 refine s_st (k:=2) (v:=.bool (decide ((((MB.inn mm76.m (GFrame.mk 2 b.P b (wth (wth (wth set 0) a.P) b.P) (GViewID.mk 0 0) (GViewID.mk 0 0) [] 0 [] [] 0 0) (GState.mk (GViewID.mk 0 0) 0 [])).2.2.2):Int) = 0))) rfl (fun w hs => (x_move (.tmp rfl rfl))) ?_
 have hc221:(decide ((((MB.inn mm76.m (GFrame.mk 2 b.P b (wth (wth (wth set 0) a.P) b.P) (GViewID.mk 0 0) (GViewID.mk 0 0) [] 0 [] [] 0 0) (GState.mk (GViewID.mk 0 0) 0 [])).2.2.2):Int) = 0)) = true:=(decide_eq_true (congrArg (fun q:MB × List GOut × Option GInstall × Int => q.2.2.2) (hhigh (of_decide_eq_false hc194))))
 have hp221:(((MB.inn mm76.m (GFrame.mk 2 b.P b (wth (wth (wth set 0) a.P) b.P) (GViewID.mk 0 0) (GViewID.mk 0 0) [] 0 [] [] 0 0) (GState.mk (GViewID.mk 0 0) 0 [])).2.2.2):Int) = 0:=of_decide_eq_true hc221
 refine s_yes (k:=3) (v:=v89) rfl (yk 158 true rfl rfl hc221) (fun w hs => (x_move (.tmp rfl rfl))) ?_
 obtain ⟨g222,c223,hv224⟩:=ok90.pos (by omega)
 refine s_yes (k:=4) (v:=.pointer (some ⟨g222,(0 * 16),none⟩)) rfl (yk 158 true rfl rfl hc221) (fun w hs => (ixo27 (.tmp rfl hv224) rfl (i:=0) .const (by omega) (by omega) (by omega))) ?_
 refine s_yes (k:=5) (v:=.pointer (some ⟨g222,(0 * 16) + 1,none⟩)) rfl (yk 158 true rfl rfl hc221) (fun w hs => (fa53_1 (.tmp rfl rfl))) ?_
 refine s_yes (k:=6) (v:=.pointer (some ⟨g222,(0 * 16) + 1 + 0,none⟩)) rfl (yk 158 true rfl rfl hc221) (fun w hs => (fa51_0 (.tmp rfl rfl))) ?_
 refine s_yes (k:=7) (v:=.int .u8 ((e155.F.Kind:Nat):Int)) rfl (yk 158 true rfl rfl hc221) (fun w hs => (ld5 (.tmp rfl rfl) ((hs.rowAt 0 rfl hv224 (0 * 16) hsub159).cell 1 rfl))) ?_
 refine s_yes (k:=8) (v:=.bool (decide ((((e155.F.Kind:Nat):Int):Int) = 3))) rfl (yk 158 true rfl rfl hc221) (fun w hs => (x_eql (k:=.u8) (a:=((e155.F.Kind:Nat):Int)) (b:=3) (.tmp rfl rfl) .const)) ?_
 refine s_st (k:=9) (v:=.bool (decide ((((e155.F.Kind:Nat):Int):Int) = 3))) rfl (fun w hs => (x_pick_t (.tmp rfl (cVb hc221)) (.tmp rfl rfl))) ?_
 refine s_st (k:=10) (v:=.bool (decide ((((e155.F.Kind:Nat):Int):Int) = 3))) rfl (fun w hs => (x_move (.tmp rfl rfl))) ?_
 have hc225:(decide ((((e155.F.Kind:Nat):Int):Int) = 3)) = true:=(decide_eq_true (by rw [heh (of_decide_eq_false hc194)] <;> rfl))
 have hp225:(((e155.F.Kind:Nat):Int):Int) = 3:=of_decide_eq_true hc225
 refine s_yes (k:=11) (v:=.pointer (some ⟨mm96.g,0,none⟩)) rfl (yk 166 true rfl rfl hc225) (fun w hs => (x_move (.tmp rfl ((congrArg (fun z => Value.pointer (some ⟨z,0,none⟩)) hmg78.symm).trans (congrArg (fun z => Value.pointer (some ⟨z,0,none⟩)) hmg98.symm))))) ?_
 refine s_yes (k:=13) (v:=.agg #[.int .u64 ((b.N:Nat):Int),.int .i64 b.P]) rfl (yk 166 true rfl rfl hc225) (fun w hs => (ld34 (cs:=[.int .u64 ((b.N:Nat):Int),.int .i64 b.P]) (.tmp rfl hρ49) (hs.at_ 2 rfl (0) rfl) rfl)) ?_
 refine s_eff (k:=12) rfl ?_
 refine g_yes (yk 166 true rfl rfl hc225) ?_
 have hs226:St H87 _ (MM.res 78 81 37 mm96 ++ (row 53 16 v89 (((MB.inn mm76.m (GFrame.mk 2 b.P b (wth (wth (wth set 0) a.P) b.P) (GViewID.mk 0 0) (GViewID.mk 0 0) [] 0 [] [] 0 0) (GState.mk (GViewID.mk 0 0) 0 [])).2.1).length) cs92::row 53 16 v69 (((MB.inn mm56.m (GFrame.mk 2 a.P a (wth (wth (wth set 0) a.P) b.P) (GViewID.mk 0 0) (GViewID.mk 0 0) [] 0 [] [] 0 0) (GState.mk (GViewID.mk 0 0) 0 [])).2.1).length) cs72::obj g11 34 [.int .u64 ((b.N:Nat):Int),.int .i64 b.P]::obj g7 34 [.int .u64 ((a.N:Nat):Int),.int .i64 a.P]::L)):=St.upL [row 53 16 v89 (((MB.inn mm76.m (GFrame.mk 2 b.P b (wth (wth (wth set 0) a.P) b.P) (GViewID.mk 0 0) (GViewID.mk 0 0) [] 0 [] [] 0 0) (GState.mk (GViewID.mk 0 0) 0 [])).2.1).length) cs92,row 53 16 v69 (((MB.inn mm56.m (GFrame.mk 2 a.P a (wth (wth (wth set 0) a.P) b.P) (GViewID.mk 0 0) (GViewID.mk 0 0) [] 0 [] [] 0 0) (GState.mk (GViewID.mk 0 0) 0 [])).2.1).length) cs72,obj g11 34 [.int .u64 ((b.N:Nat):Int),.int .i64 b.P],obj g7 34 [.int .u64 ((a.N:Nat):Int),.int .i64 a.P]] hs220
 refine st_c cb19 .func (evs1 (.tmp rfl rfl)) (prom_mm hs226 (x:=mm96) mok97 ) ?_
 rintro e w227 ⟨cs229,rfl,hr230,hs228⟩
 obtain ⟨rfl,b231,⟨b232,b233⟩⟩:=hr230
 refine ⟨_,rfl,?_⟩
 have hs234:St H87 _ (row 53 16 v89 (((MB.inn mm76.m (GFrame.mk 2 b.P b (wth (wth (wth set 0) a.P) b.P) (GViewID.mk 0 0) (GViewID.mk 0 0) [] 0 [] [] 0 0) (GState.mk (GViewID.mk 0 0) 0 [])).2.1).length) cs92::row 53 16 v69 (((MB.inn mm56.m (GFrame.mk 2 a.P a (wth (wth (wth set 0) a.P) b.P) (GViewID.mk 0 0) (GViewID.mk 0 0) [] 0 [] [] 0 0) (GState.mk (GViewID.mk 0 0) 0 [])).2.1).length) cs72::obj g11 34 [.int .u64 ((b.N:Nat):Int),.int .i64 b.P]::obj g7 34 [.int .u64 ((a.N:Nat):Int),.int .i64 a.P]::MM.res 78 81 37 mm96 ++ (L)):=St.downL [row 53 16 v89 (((MB.inn mm76.m (GFrame.mk 2 b.P b (wth (wth (wth set 0) a.P) b.P) (GViewID.mk 0 0) (GViewID.mk 0 0) [] 0 [] [] 0 0) (GState.mk (GViewID.mk 0 0) 0 [])).2.1).length) cs92,row 53 16 v69 (((MB.inn mm56.m (GFrame.mk 2 a.P a (wth (wth (wth set 0) a.P) b.P) (GViewID.mk 0 0) (GViewID.mk 0 0) [] 0 [] [] 0 0) (GState.mk (GViewID.mk 0 0) 0 [])).2.1).length) cs72,obj g11 34 [.int .u64 ((b.N:Nat):Int),.int .i64 b.P],obj g7 34 [.int .u64 ((a.N:Nat):Int),.int .i64 a.P]] hs228
 refine s_on (S':=fun u => St H87 u (row 53 16 v89 (((MB.inn mm76.m (GFrame.mk 2 b.P b (wth (wth (wth set 0) a.P) b.P) (GViewID.mk 0 0) (GViewID.mk 0 0) [] 0 [] [] 0 0) (GState.mk (GViewID.mk 0 0) 0 [])).2.1).length) cs92::row 53 16 v69 (((MB.inn mm56.m (GFrame.mk 2 a.P a (wth (wth (wth set 0) a.P) b.P) (GViewID.mk 0 0) (GViewID.mk 0 0) [] 0 [] [] 0 0) (GState.mk (GViewID.mk 0 0) 0 [])).2.1).length) cs72::obj g11 34 [.int .u64 ((b.N:Nat):Int),.int .i64 b.P]::obj g7 34 [.int .u64 ((a.N:Nat):Int),.int .i64 a.P]::MM.res 78 81 37 mm96 ++ (L))) (fun u hu => hu) hs234 ?_
 refine s_yes (k:=14) (v:=.bool ((((mm96.m.prom.N:Nat):Int) == ((b.N:Nat):Int)) && ((mm96.m.prom.P == b.P) && true))) rfl (yk 166 true rfl rfl hc225) (fun w hs => (x_eqlA eqg34 (.tmp rfl rfl) (.tmp rfl rfl) (fun d => eqs34 (d + 98) _ ((mm96.m.prom.N:Nat):Int) ((b.N:Nat):Int) mm96.m.prom.P b.P))) ?_
 refine s_st (k:=15) (v:=.bool (decide (mm96.m.prom = b))) rfl (fun w hs => (x_pick_t (.tmp rfl (cVb hc225)) (.tmp rfl (cVb (GViewID.beq_dec mm96.m.prom b))))) ?_
 refine s_st (k:=16) (v:=.bool (decide (mm96.m.prom = b))) rfl (fun w hs => (x_move (.tmp rfl rfl))) ?_
 have hc235:(decide (mm96.m.prom = b)) = true:=(decide_eq_true ((congrArg MB.prom hmm99).trans (congrArg (fun q:MB × List GOut × Option GInstall × Int => q.1.prom) (hhigh (of_decide_eq_false hc194)))))
 have hp235:mm96.m.prom = b:=of_decide_eq_true hc235
 refine s_yes (k:=17) (v:=.pointer (some ⟨mm96.g,0,none⟩)) rfl (yk 172 true rfl rfl hc235) (fun w hs => (x_move (.tmp rfl ((congrArg (fun z => Value.pointer (some ⟨z,0,none⟩)) hmg78.symm).trans (congrArg (fun z => Value.pointer (some ⟨z,0,none⟩)) hmg98.symm))))) ?_
 refine s_eff (k:=18) rfl ?_
 refine g_yes (yk 172 true rfl rfl hc235) ?_
 have hs236:St H87 _ (MM.res 78 81 37 mm96 ++ (row 53 16 v89 (((MB.inn mm76.m (GFrame.mk 2 b.P b (wth (wth (wth set 0) a.P) b.P) (GViewID.mk 0 0) (GViewID.mk 0 0) [] 0 [] [] 0 0) (GState.mk (GViewID.mk 0 0) 0 [])).2.1).length) cs92::row 53 16 v69 (((MB.inn mm56.m (GFrame.mk 2 a.P a (wth (wth (wth set 0) a.P) b.P) (GViewID.mk 0 0) (GViewID.mk 0 0) [] 0 [] [] 0 0) (GState.mk (GViewID.mk 0 0) 0 [])).2.1).length) cs72::obj g11 34 [.int .u64 ((b.N:Nat):Int),.int .i64 b.P]::obj g7 34 [.int .u64 ((a.N:Nat):Int),.int .i64 a.P]::L)):=St.upL [row 53 16 v89 (((MB.inn mm76.m (GFrame.mk 2 b.P b (wth (wth (wth set 0) a.P) b.P) (GViewID.mk 0 0) (GViewID.mk 0 0) [] 0 [] [] 0 0) (GState.mk (GViewID.mk 0 0) 0 [])).2.1).length) cs92,row 53 16 v69 (((MB.inn mm56.m (GFrame.mk 2 a.P a (wth (wth (wth set 0) a.P) b.P) (GViewID.mk 0 0) (GViewID.mk 0 0) [] 0 [] [] 0 0) (GState.mk (GViewID.mk 0 0) 0 [])).2.1).length) cs72,obj g11 34 [.int .u64 ((b.N:Nat):Int),.int .i64 b.P],obj g7 34 [.int .u64 ((a.N:Nat):Int),.int .i64 a.P]] hs234
 refine st_c cb15 .func (evs1 (.tmp rfl rfl)) (opn_mm hs236 (x:=mm96) mok97 ) ?_
 rintro e w237 ⟨rfl,hs238⟩
 refine ⟨_,rfl,?_⟩
 have hs239:St H87 _ (row 53 16 v89 (((MB.inn mm76.m (GFrame.mk 2 b.P b (wth (wth (wth set 0) a.P) b.P) (GViewID.mk 0 0) (GViewID.mk 0 0) [] 0 [] [] 0 0) (GState.mk (GViewID.mk 0 0) 0 [])).2.1).length) cs92::row 53 16 v69 (((MB.inn mm56.m (GFrame.mk 2 a.P a (wth (wth (wth set 0) a.P) b.P) (GViewID.mk 0 0) (GViewID.mk 0 0) [] 0 [] [] 0 0) (GState.mk (GViewID.mk 0 0) 0 [])).2.1).length) cs72::obj g11 34 [.int .u64 ((b.N:Nat):Int),.int .i64 b.P]::obj g7 34 [.int .u64 ((a.N:Nat):Int),.int .i64 a.P]::MM.res 78 81 37 mm96 ++ (L)):=St.downL [row 53 16 v89 (((MB.inn mm76.m (GFrame.mk 2 b.P b (wth (wth (wth set 0) a.P) b.P) (GViewID.mk 0 0) (GViewID.mk 0 0) [] 0 [] [] 0 0) (GState.mk (GViewID.mk 0 0) 0 [])).2.1).length) cs92,row 53 16 v69 (((MB.inn mm56.m (GFrame.mk 2 a.P a (wth (wth (wth set 0) a.P) b.P) (GViewID.mk 0 0) (GViewID.mk 0 0) [] 0 [] [] 0 0) (GState.mk (GViewID.mk 0 0) 0 [])).2.1).length) cs72,obj g11 34 [.int .u64 ((b.N:Nat):Int),.int .i64 b.P],obj g7 34 [.int .u64 ((a.N:Nat):Int),.int .i64 a.P]] hs238
 refine s_on (S':=fun u => St H87 u (row 53 16 v89 (((MB.inn mm76.m (GFrame.mk 2 b.P b (wth (wth (wth set 0) a.P) b.P) (GViewID.mk 0 0) (GViewID.mk 0 0) [] 0 [] [] 0 0) (GState.mk (GViewID.mk 0 0) 0 [])).2.1).length) cs92::row 53 16 v69 (((MB.inn mm56.m (GFrame.mk 2 a.P a (wth (wth (wth set 0) a.P) b.P) (GViewID.mk 0 0) (GViewID.mk 0 0) [] 0 [] [] 0 0) (GState.mk (GViewID.mk 0 0) 0 [])).2.1).length) cs72::obj g11 34 [.int .u64 ((b.N:Nat):Int),.int .i64 b.P]::obj g7 34 [.int .u64 ((a.N:Nat):Int),.int .i64 a.P]::MM.res 78 81 37 mm96 ++ (L))) (fun u hu => hu) hs239 ?_
 refine s_yes (k:=19) (v:=.bool (!mm96.m.opn)) rfl (yk 172 true rfl rfl hc235) (fun w hs => (x_not (.tmp rfl rfl))) ?_
 refine s_st (k:=20) (v:=.bool (!mm96.m.opn)) rfl (fun w hs => (x_pick_t (.tmp rfl (cVb hc235)) (.tmp rfl rfl))) ?_
 refine s_st (k:=21) (v:=.bool (!mm96.m.opn)) rfl (fun w hs => (x_assign (.tmp rfl rfl))) ?_
 refine s_nil ?_
 refine n_then (c_ret (leave_ret (res_one (v:=.bool (!mm96.m.opn)) rfl (.mk rfl rfl)) ?_))
 have hyes:(!mm96.m.opn) = true:=((congrArg (fun z:MB => !z.opn) hmm99).trans (congrArg (fun q:MB × List GOut × Option GInstall × Int => !q.1.opn) (hhigh (of_decide_eq_false hc194))))
 rw [hyes]
 exact ⟨rfl,((St.dropL [] hs239.drop.drop.drop.drop).weaken (hle68.trans hle88))⟩
end Go.Proofs.YtcccaihjgoaehaaDoor
