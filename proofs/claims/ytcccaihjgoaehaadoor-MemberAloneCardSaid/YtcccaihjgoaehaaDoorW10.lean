/- Steps of the proofs over the functions of this seat, printed by a program (gen.py) and checked by Lean. -/
import Derived.Test.YtcccaihjgoaehaaDoorW01
import Derived.Test.YtcccaihjgoaehaaDoorW00
import Derived.Test.YtcccaihjgoaehaaDoorW03
import Derived.Test.YtcccaihjgoaehaaDoorW09
set_option linter.unusedVariables false
set_option linter.unusedSimpArgs false
namespace Go.Proofs.YtcccaihjgoaehaaDoor
open Go Go.FM Go.Proofs
attribute [local irreducible] wpList wpQuiet wpS Code.wp Calls
theorem cur_mm {H:Hp} {w:World} {L:List Res} {x:MM} (hs:St H w (MM.res 78 81 37 x ++ L)) (ok:x.ok H):Calls Tryd.prog 14 #[.pointer (some ⟨x.g,0,none⟩)] w (fun e w' => ∃ (cs0:List Value),e = .returned (.agg cs0.toArray)∧kView.rep H x.m.cur cs0∧St H w' (MM.res 78 81 37 x ++ L)):=by
  obtain ⟨⟨n,self,cur,prom,high,prop,jl,os⟩,g,gp,A,jn,jc,sv,sc⟩:=x
  cases prop with
  | none => exact cur_X (m_prop:=none) hs ok.b
  | some p => exact cur_X (m_prop:=some p) hs ok.b
theorem opn_mm {H:Hp} {w:World} {L:List Res} {x:MM} (hs:St H w (MM.res 78 81 37 x ++ L)) (ok:x.ok H):Calls Tryd.prog 15 #[.pointer (some ⟨x.g,0,none⟩)] w (fun e w' => e = .returned (.bool x.m.opn)∧St H w' (MM.res 78 81 37 x ++ L)):=by
  obtain ⟨⟨n,self,cur,prom,high,prop,jl,os⟩,g,gp,A,jn,jc,sv,sc⟩:=x
  cases prop with
  | none => exact opn_X (m_prop:=none) hs ok.b
  | some p => exact opn_X (m_prop:=some p) hs ok.b
theorem tick_mm {H:Hp} {w:World} {L:List Res} {x:MM} (hs:St H w (MM.res 78 81 37 x ++ L)) (ok:x.ok H) (est:Nat) (b_est:est < 65536) (sx:GState) {k_sx:List Value} (h_sx:kState.rep H sx k_sx) (hfl:0 ≤ sx.Floor∧sx.Floor ≤ 1073741824) (htab:Tab H):Calls Tryd.prog 12 #[.pointer (some ⟨x.g,0,none⟩),.int .u16 ((est:Nat):Int),.agg k_sx.toArray] w (fun e w' => ∃ (H':Hp) (v0:Value) (cs0:List Value) (iv1:Value) (x':MM),H.le H'∧e = .returned (.tuple #[v0,iv1])∧RowOk kOut.sz v0 ((MB.tick x.m est sx).2.1).length cs0∧kOut.toKn.rows H' ((MB.tick x.m est sx).2.1) cs0∧InstAt H' ((MB.tick x.m est sx).2.2) iv1∧x'.ok H'∧x'.g = x.g∧x'.m = (MB.tick x.m est sx).1∧St H' w' (row 53 kOut.sz v0 ((MB.tick x.m est sx).2.1).length cs0::(MM.res 78 81 37 x' ++ L))):=by
  obtain ⟨⟨n,self,cur,prom,high,prop,jl,os⟩,g,gp,A,jn,jc,sv,sc⟩:=x
  cases prop with
  | none =>
    refine Calls.mono (tick_N hs ok.b est b_est sx h_sx hfl htab) ?_
    rintro e w' ⟨H',v0,cs0,iv,m',gp',A',jn',jc',sv',sc',hle,rfl,h1,h2,h3,h4,h5,h6⟩
    exact ⟨H',v0,cs0,iv,⟨m',g,gp',A',jn',jc',sv',sc'⟩,hle,rfl,h1,h2,h3,h4,rfl,h5,h6⟩
  | some p =>
    refine Calls.mono (tick_S hs ok.b (ok.prop p rfl) est b_est sx h_sx hfl htab) ?_
    rintro e w' ⟨H',v0,cs0,iv,m',gp',A',jn',jc',sv',sc',hle,rfl,h1,h2,h3,h4,h5,h6⟩
    exact ⟨H',v0,cs0,iv,⟨m',g,gp',A',jn',jc',sv',sc'⟩,hle,rfl,h1,h2,h3,h4,rfl,h5,h6⟩
theorem in_mm {H:Hp} {w:World} {L:List Res} {x:MM} (hs:St H w (MM.res 78 81 37 x ++ L)) (ok:x.ok H) (f:GFrame) {k_f:List Value} (h_f:kFrame.rep H f k_f) (sx:GState) {k_sx:List Value} (h_sx:kState.rep H sx k_sx) (hpr:∀ p,x.m.prop = some p → p.states.length ≤ 900000∧(∀ s ∈ p.states,0 ≤ s.Floor∧s.Floor ≤ 1073741824)∧∀ s ∈ f.States,0 ≤ s.Floor∧s.Floor ≤ 1073741824) (htab:Tab H):Calls Tryd.prog 17 #[.pointer (some ⟨x.g,0,none⟩),.agg k_f.toArray,.agg k_sx.toArray] w (fun e w' => ∃ (H':Hp) (v0:Value) (cs0:List Value) (iv1:Value) (x':MM),H.le H'∧e = .returned (.tuple #[v0,iv1,.int .i64 (MB.inn x.m f sx).2.2.2])∧RowOk kOut.sz v0 ((MB.inn x.m f sx).2.1).length cs0∧kOut.toKn.rows H' ((MB.inn x.m f sx).2.1) cs0∧InstAt H' ((MB.inn x.m f sx).2.2.1) iv1∧x'.ok H'∧x'.g = x.g∧x'.m = (MB.inn x.m f sx).1∧St H' w' (row 53 kOut.sz v0 ((MB.inn x.m f sx).2.1).length cs0::(MM.res 78 81 37 x' ++ L))):=by
  obtain ⟨⟨n,self,cur,prom,high,prop,jl,os⟩,g,gp,A,jn,jc,sv,sc⟩:=x
  cases prop with
  | none =>
    refine Calls.mono (in_N hs ok.b f h_f sx h_sx htab) ?_
    rintro e w' ⟨H',v0,cs0,iv,m',gp',A',jn',jc',sv',sc',hle,rfl,h1,h2,h3,h4,h5,h6⟩
    exact ⟨H',v0,cs0,iv,⟨m',g,gp',A',jn',jc',sv',sc'⟩,hle,rfl,h1,h2,h3,h4,rfl,h5,h6⟩
  | some p =>
    obtain ⟨q1,q2,q3⟩:=hpr p rfl
    refine Calls.mono (in_S hs ok.b (ok.prop p rfl) f h_f sx h_sx q1 q2 q3 htab) ?_
    rintro e w' ⟨H',v0,cs0,iv,m',gp',A',jn',jc',sv',sc',hle,rfl,h1,h2,h3,h4,h5,h6⟩
    exact ⟨H',v0,cs0,iv,⟨m',g,gp',A',jn',jc',sv',sc'⟩,hle,rfl,h1,h2,h3,h4,rfl,h5,h6⟩
end Go.Proofs.YtcccaihjgoaehaaDoor

set_option linter.unusedVariables false
set_option linter.unusedSimpArgs false
set_option maxRecDepth 100000
namespace Go.Proofs.YtcccaihjgoaehaaDoor
open Go Go.FM Go.Proofs
attribute [local irreducible] wpList wpQuiet wpS Code.wp Calls
set_option maxHeartbeats 8000000 in
theorem new_mm {H:Hp} {w:World} {L:List Res} (hs:St H w (L)) (n:Nat) (z:Nat) (h1:1 ≤ n) (h2:n ≤ 16) (h3:z < n):Calls Tryd.prog 11 #[.int .i64 ((n:Nat):Int),.int .i64 ((z:Nat):Int)] w (fun e w' => ∃ (x0:MM),e = .returned (.tuple #[.pointer (some ⟨x0.g,0,none⟩),.int .i64 0])∧MM.ok x0 H∧x0.m = (MB.new n z)∧St H w' (MM.res 78 81 37 x0 ++ (L))):=by
 refine enter (args:=[.int .i64 ((n:Nat):Int),.int .i64 ((z:Nat):Int)]) (N:=25) Tryd.func11 rfl rfl rfl ?_
 refine c_seq (c_region (st (v:=.pointer none) (x_assign .const) ?_))
 refine st (v:=.int .i64 0) (x_assign .const) ?_
 refine c_nil (n_then (c_seq (c_seq (c_region (st (v:=.int .i64 ((n:Nat):Int)) (x_move (.tmp rfl rfl)) ?_)))))
 refine st (v:=.bool (decide ((((n:Nat):Int):Int) < 1))) (x_lss (k:=.i64) (a:=((n:Nat):Int)) (b:=1) (.tmp rfl rfl) .const) ?_
 refine st (v:=.bool (decide ((((n:Nat):Int):Int) < 1))) (x_move (.tmp rfl rfl)) ?_
 have hc1:(decide ((((n:Nat):Int):Int) < 1)) = false:=decide_eq_false (by omega)
 refine g_yes (yk 8 false rfl rfl hc1) ?_
 refine st (v:=.int .i64 ((n:Nat):Int)) (x_move (.tmp rfl rfl)) ?_
 refine g_yes (yk 8 false rfl rfl hc1) ?_
 refine st (v:=.bool (decide ((16:Int) < ((n:Nat):Int)))) (x_gtr (k:=.i64) (a:=((n:Nat):Int)) (b:=16) (.tmp rfl rfl) .const) ?_
 refine st (v:=.bool (decide ((16:Int) < ((n:Nat):Int)))) (x_pick_f (.tmp rfl (cVb hc1)) (.tmp rfl rfl)) ?_
 refine st (v:=.bool (decide ((16:Int) < ((n:Nat):Int)))) (x_move (.tmp rfl rfl)) ?_
 have hc2:(decide ((16:Int) < ((n:Nat):Int))) = false:=decide_eq_false (by omega)
 refine g_yes (yk 12 false rfl rfl hc2) ?_
 refine st (v:=.int .i64 ((z:Nat):Int)) (x_move (.tmp rfl rfl)) ?_
 refine g_yes (yk 12 false rfl rfl hc2) ?_
 refine st (v:=.bool (decide ((((z:Nat):Int):Int) < 0))) (x_lss (k:=.i64) (a:=((z:Nat):Int)) (b:=0) (.tmp rfl rfl) .const) ?_
 refine st (v:=.bool (decide ((((z:Nat):Int):Int) < 0))) (x_pick_f (.tmp rfl (cVb hc2)) (.tmp rfl rfl)) ?_
 refine st (v:=.bool (decide ((((z:Nat):Int):Int) < 0))) (x_move (.tmp rfl rfl)) ?_
 have hc3:(decide ((((z:Nat):Int):Int) < 0)) = false:=decide_eq_false (by omega)
 refine g_yes (yk 16 false rfl rfl hc3) ?_
 refine st (v:=.int .i64 ((z:Nat):Int)) (x_move (.tmp rfl rfl)) ?_
 refine g_yes (yk 16 false rfl rfl hc3) ?_
 refine st (v:=.int .i64 ((n:Nat):Int)) (x_move (.tmp rfl rfl)) ?_
 refine g_yes (yk 16 false rfl rfl hc3) ?_
 refine st (v:=.bool (decide ((((n:Nat):Int):Int) ≤ ((z:Nat):Int)))) (x_geq (k:=.i64) (a:=((z:Nat):Int)) (b:=((n:Nat):Int)) (.tmp rfl rfl) (.tmp rfl rfl)) ?_
 refine st (v:=.bool (decide ((((n:Nat):Int):Int) ≤ ((z:Nat):Int)))) (x_pick_f (.tmp rfl (cVb hc3)) (.tmp rfl rfl)) ?_
 refine c_nil (n_then ?_)
 have hc4:(decide ((((n:Nat):Int):Int) ≤ ((z:Nat):Int))) = false:=decide_eq_false (by omega)
 refine c_cond_f (t:=false) (.tmp rfl (cVb hc4)) rfl ?_
 refine c_skip (n_then (c_seq (c_region (st (v:=.int .i64 ((n:Nat):Int)) (x_move (.tmp rfl rfl)) ?_))))
 refine st (v:=.int .i64 ((z:Nat):Int)) (x_move (.tmp rfl rfl)) ?_
 refine st (v:=.agg #[.int .i64 ((n:Nat):Int),.int .i64 ((z:Nat):Int),.int .u64 0,.int .i64 0,.int .u16 0,.int .u64 0,.int .i64 0,.int .u64 0,.pointer none,.slice none 0 0,.int .u8 0,.int .i64 0,.int .u64 0,.int .i64 0,.int .u16 0,.int .u64 0,.int .i64 0,.int .u64 0,.int .i64 0,.slice none 0 0,.int .u64 0,.slice none 0 0,.slice none 0 0,.int .u64 0,.int .u64 0,.int .u8 0,.int .i64 0,.int .u64 0,.int .i64 0,.int .u16 0,.int .u64 0,.int .i64 0,.int .u64 0,.int .i64 0,.slice none 0 0,.int .u64 0,.slice none 0 0,.slice none 0 0,.int .u64 0,.int .u64 0,.int .u8 0,.int .i64 0,.int .u64 0,.int .i64 0,.int .u16 0,.int .u64 0,.int .i64 0,.int .u64 0,.int .i64 0,.slice none 0 0,.int .u64 0,.slice none 0 0,.slice none 0 0,.int .u64 0,.int .u64 0,.int .u8 0,.int .i64 0,.int .u64 0,.int .i64 0,.int .u16 0,.int .u64 0,.int .i64 0,.int .u64 0,.int .i64 0,.slice none 0 0,.int .u64 0,.slice none 0 0,.slice none 0 0,.int .u64 0,.int .u64 0,.int .u8 0,.int .i64 0,.int .u64 0,.int .i64 0,.int .u16 0,.int .u64 0,.int .i64 0,.int .u64 0,.int .i64 0,.slice none 0 0,.int .u64 0,.slice none 0 0,.slice none 0 0,.int .u64 0,.int .u64 0,.int .u8 0,.int .i64 0,.int .u64 0,.int .i64 0,.int .u16 0,.int .u64 0,.int .i64 0,.int .u64 0,.int .i64 0,.slice none 0 0,.int .u64 0,.slice none 0 0,.slice none 0 0,.int .u64 0,.int .u64 0,.int .u8 0,.int .i64 0,.int .u64 0,.int .i64 0,.int .u16 0,.int .u64 0,.int .i64 0,.int .u64 0,.int .i64 0,.slice none 0 0,.int .u64 0,.slice none 0 0,.slice none 0 0,.int .u64 0,.int .u64 0,.int .u8 0,.int .i64 0,.int .u64 0,.int .i64 0,.int .u16 0,.int .u64 0,.int .i64 0,.int .u64 0,.int .i64 0,.slice none 0 0,.int .u64 0,.slice none 0 0,.slice none 0 0,.int .u64 0,.int .u64 0,.int .u8 0,.int .i64 0,.int .u64 0,.int .i64 0,.int .u16 0,.int .u64 0,.int .i64 0,.int .u64 0,.int .i64 0,.slice none 0 0,.int .u64 0,.slice none 0 0,.slice none 0 0,.int .u64 0,.int .u64 0,.int .u8 0,.int .i64 0,.int .u64 0,.int .i64 0,.int .u16 0,.int .u64 0,.int .i64 0,.int .u64 0,.int .i64 0,.slice none 0 0,.int .u64 0,.slice none 0 0,.slice none 0 0,.int .u64 0,.int .u64 0,.int .u8 0,.int .i64 0,.int .u64 0,.int .i64 0,.int .u16 0,.int .u64 0,.int .i64 0,.int .u64 0,.int .i64 0,.slice none 0 0,.int .u64 0,.slice none 0 0,.slice none 0 0,.int .u64 0,.int .u64 0,.int .u8 0,.int .i64 0,.int .u64 0,.int .i64 0,.int .u16 0,.int .u64 0,.int .i64 0,.int .u64 0,.int .i64 0,.slice none 0 0,.int .u64 0,.slice none 0 0,.slice none 0 0,.int .u64 0,.int .u64 0,.int .u8 0,.int .i64 0,.int .u64 0,.int .i64 0,.int .u16 0,.int .u64 0,.int .i64 0,.int .u64 0,.int .i64 0,.slice none 0 0,.int .u64 0,.slice none 0 0,.slice none 0 0,.int .u64 0,.int .u64 0,.int .u8 0,.int .i64 0,.int .u64 0,.int .i64 0,.int .u16 0,.int .u64 0,.int .i64 0,.int .u64 0,.int .i64 0,.slice none 0 0,.int .u64 0,.slice none 0 0,.slice none 0 0,.int .u64 0,.int .u64 0,.int .u8 0,.int .i64 0,.int .u64 0,.int .i64 0,.int .u16 0,.int .u64 0,.int .i64 0,.int .u64 0,.int .i64 0,.slice none 0 0,.int .u64 0,.slice none 0 0,.slice none 0 0,.int .u64 0,.int .u64 0,.int .u8 0,.int .i64 0,.int .u64 0,.int .i64 0,.int .u16 0,.int .u64 0,.int .i64 0,.int .u64 0,.int .i64 0,.slice none 0 0,.int .u64 0,.slice none 0 0,.slice none 0 0,.int .u64 0,.int .u64 0]) (bl78 (ps:=[(0,.int .i64 ((n:Nat):Int)),(1,.int .i64 ((z:Nat):Int))]) (.cons (.tmp rfl rfl) (.cons (.tmp rfl rfl) Evp.nil)) rfl) ?_
 refine st_m (m_box (cs:=[.int .i64 ((n:Nat):Int),.int .i64 ((z:Nat):Int),.int .u64 0,.int .i64 0,.int .u16 0,.int .u64 0,.int .i64 0,.int .u64 0,.pointer none,.slice none 0 0,.int .u8 0,.int .i64 0,.int .u64 0,.int .i64 0,.int .u16 0,.int .u64 0,.int .i64 0,.int .u64 0,.int .i64 0,.slice none 0 0,.int .u64 0,.slice none 0 0,.slice none 0 0,.int .u64 0,.int .u64 0,.int .u8 0,.int .i64 0,.int .u64 0,.int .i64 0,.int .u16 0,.int .u64 0,.int .i64 0,.int .u64 0,.int .i64 0,.slice none 0 0,.int .u64 0,.slice none 0 0,.slice none 0 0,.int .u64 0,.int .u64 0,.int .u8 0,.int .i64 0,.int .u64 0,.int .i64 0,.int .u16 0,.int .u64 0,.int .i64 0,.int .u64 0,.int .i64 0,.slice none 0 0,.int .u64 0,.slice none 0 0,.slice none 0 0,.int .u64 0,.int .u64 0,.int .u8 0,.int .i64 0,.int .u64 0,.int .i64 0,.int .u16 0,.int .u64 0,.int .i64 0,.int .u64 0,.int .i64 0,.slice none 0 0,.int .u64 0,.slice none 0 0,.slice none 0 0,.int .u64 0,.int .u64 0,.int .u8 0,.int .i64 0,.int .u64 0,.int .i64 0,.int .u16 0,.int .u64 0,.int .i64 0,.int .u64 0,.int .i64 0,.slice none 0 0,.int .u64 0,.slice none 0 0,.slice none 0 0,.int .u64 0,.int .u64 0,.int .u8 0,.int .i64 0,.int .u64 0,.int .i64 0,.int .u16 0,.int .u64 0,.int .i64 0,.int .u64 0,.int .i64 0,.slice none 0 0,.int .u64 0,.slice none 0 0,.slice none 0 0,.int .u64 0,.int .u64 0,.int .u8 0,.int .i64 0,.int .u64 0,.int .i64 0,.int .u16 0,.int .u64 0,.int .i64 0,.int .u64 0,.int .i64 0,.slice none 0 0,.int .u64 0,.slice none 0 0,.slice none 0 0,.int .u64 0,.int .u64 0,.int .u8 0,.int .i64 0,.int .u64 0,.int .i64 0,.int .u16 0,.int .u64 0,.int .i64 0,.int .u64 0,.int .i64 0,.slice none 0 0,.int .u64 0,.slice none 0 0,.slice none 0 0,.int .u64 0,.int .u64 0,.int .u8 0,.int .i64 0,.int .u64 0,.int .i64 0,.int .u16 0,.int .u64 0,.int .i64 0,.int .u64 0,.int .i64 0,.slice none 0 0,.int .u64 0,.slice none 0 0,.slice none 0 0,.int .u64 0,.int .u64 0,.int .u8 0,.int .i64 0,.int .u64 0,.int .i64 0,.int .u16 0,.int .u64 0,.int .i64 0,.int .u64 0,.int .i64 0,.slice none 0 0,.int .u64 0,.slice none 0 0,.slice none 0 0,.int .u64 0,.int .u64 0,.int .u8 0,.int .i64 0,.int .u64 0,.int .i64 0,.int .u16 0,.int .u64 0,.int .i64 0,.int .u64 0,.int .i64 0,.slice none 0 0,.int .u64 0,.slice none 0 0,.slice none 0 0,.int .u64 0,.int .u64 0,.int .u8 0,.int .i64 0,.int .u64 0,.int .i64 0,.int .u16 0,.int .u64 0,.int .i64 0,.int .u64 0,.int .i64 0,.slice none 0 0,.int .u64 0,.slice none 0 0,.slice none 0 0,.int .u64 0,.int .u64 0,.int .u8 0,.int .i64 0,.int .u64 0,.int .i64 0,.int .u16 0,.int .u64 0,.int .i64 0,.int .u64 0,.int .i64 0,.slice none 0 0,.int .u64 0,.slice none 0 0,.slice none 0 0,.int .u64 0,.int .u64 0,.int .u8 0,.int .i64 0,.int .u64 0,.int .i64 0,.int .u16 0,.int .u64 0,.int .i64 0,.int .u64 0,.int .i64 0,.slice none 0 0,.int .u64 0,.slice none 0 0,.slice none 0 0,.int .u64 0,.int .u64 0,.int .u8 0,.int .i64 0,.int .u64 0,.int .i64 0,.int .u16 0,.int .u64 0,.int .i64 0,.int .u64 0,.int .i64 0,.slice none 0 0,.int .u64 0,.slice none 0 0,.slice none 0 0,.int .u64 0,.int .u64 0,.int .u8 0,.int .i64 0,.int .u64 0,.int .i64 0,.int .u16 0,.int .u64 0,.int .i64 0,.int .u64 0,.int .i64 0,.slice none 0 0,.int .u64 0,.slice none 0 0,.slice none 0 0,.int .u64 0,.int .u64 0]) hs (v:=.agg #[.int .i64 ((n:Nat):Int),.int .i64 ((z:Nat):Int),.int .u64 0,.int .i64 0,.int .u16 0,.int .u64 0,.int .i64 0,.int .u64 0,.pointer none,.slice none 0 0,.int .u8 0,.int .i64 0,.int .u64 0,.int .i64 0,.int .u16 0,.int .u64 0,.int .i64 0,.int .u64 0,.int .i64 0,.slice none 0 0,.int .u64 0,.slice none 0 0,.slice none 0 0,.int .u64 0,.int .u64 0,.int .u8 0,.int .i64 0,.int .u64 0,.int .i64 0,.int .u16 0,.int .u64 0,.int .i64 0,.int .u64 0,.int .i64 0,.slice none 0 0,.int .u64 0,.slice none 0 0,.slice none 0 0,.int .u64 0,.int .u64 0,.int .u8 0,.int .i64 0,.int .u64 0,.int .i64 0,.int .u16 0,.int .u64 0,.int .i64 0,.int .u64 0,.int .i64 0,.slice none 0 0,.int .u64 0,.slice none 0 0,.slice none 0 0,.int .u64 0,.int .u64 0,.int .u8 0,.int .i64 0,.int .u64 0,.int .i64 0,.int .u16 0,.int .u64 0,.int .i64 0,.int .u64 0,.int .i64 0,.slice none 0 0,.int .u64 0,.slice none 0 0,.slice none 0 0,.int .u64 0,.int .u64 0,.int .u8 0,.int .i64 0,.int .u64 0,.int .i64 0,.int .u16 0,.int .u64 0,.int .i64 0,.int .u64 0,.int .i64 0,.slice none 0 0,.int .u64 0,.slice none 0 0,.slice none 0 0,.int .u64 0,.int .u64 0,.int .u8 0,.int .i64 0,.int .u64 0,.int .i64 0,.int .u16 0,.int .u64 0,.int .i64 0,.int .u64 0,.int .i64 0,.slice none 0 0,.int .u64 0,.slice none 0 0,.slice none 0 0,.int .u64 0,.int .u64 0,.int .u8 0,.int .i64 0,.int .u64 0,.int .i64 0,.int .u16 0,.int .u64 0,.int .i64 0,.int .u64 0,.int .i64 0,.slice none 0 0,.int .u64 0,.slice none 0 0,.slice none 0 0,.int .u64 0,.int .u64 0,.int .u8 0,.int .i64 0,.int .u64 0,.int .i64 0,.int .u16 0,.int .u64 0,.int .i64 0,.int .u64 0,.int .i64 0,.slice none 0 0,.int .u64 0,.slice none 0 0,.slice none 0 0,.int .u64 0,.int .u64 0,.int .u8 0,.int .i64 0,.int .u64 0,.int .i64 0,.int .u16 0,.int .u64 0,.int .i64 0,.int .u64 0,.int .i64 0,.slice none 0 0,.int .u64 0,.slice none 0 0,.slice none 0 0,.int .u64 0,.int .u64 0,.int .u8 0,.int .i64 0,.int .u64 0,.int .i64 0,.int .u16 0,.int .u64 0,.int .i64 0,.int .u64 0,.int .i64 0,.slice none 0 0,.int .u64 0,.slice none 0 0,.slice none 0 0,.int .u64 0,.int .u64 0,.int .u8 0,.int .i64 0,.int .u64 0,.int .i64 0,.int .u16 0,.int .u64 0,.int .i64 0,.int .u64 0,.int .i64 0,.slice none 0 0,.int .u64 0,.slice none 0 0,.slice none 0 0,.int .u64 0,.int .u64 0,.int .u8 0,.int .i64 0,.int .u64 0,.int .i64 0,.int .u16 0,.int .u64 0,.int .i64 0,.int .u64 0,.int .i64 0,.slice none 0 0,.int .u64 0,.slice none 0 0,.slice none 0 0,.int .u64 0,.int .u64 0,.int .u8 0,.int .i64 0,.int .u64 0,.int .i64 0,.int .u16 0,.int .u64 0,.int .i64 0,.int .u64 0,.int .i64 0,.slice none 0 0,.int .u64 0,.slice none 0 0,.slice none 0 0,.int .u64 0,.int .u64 0,.int .u8 0,.int .i64 0,.int .u64 0,.int .i64 0,.int .u16 0,.int .u64 0,.int .i64 0,.int .u64 0,.int .i64 0,.slice none 0 0,.int .u64 0,.slice none 0 0,.slice none 0 0,.int .u64 0,.int .u64 0,.int .u8 0,.int .i64 0,.int .u64 0,.int .i64 0,.int .u16 0,.int .u64 0,.int .i64 0,.int .u64 0,.int .i64 0,.slice none 0 0,.int .u64 0,.slice none 0 0,.slice none 0 0,.int .u64 0,.int .u64 0,.int .u8 0,.int .i64 0,.int .u64 0,.int .i64 0,.int .u16 0,.int .u64 0,.int .i64 0,.int .u64 0,.int .i64 0,.slice none 0 0,.int .u64 0,.slice none 0 0,.slice none 0 0,.int .u64 0,.int .u64 0]) (.tmp rfl rfl) rfl) ?_
 rintro _ w6 ⟨g5,rfl,hs8⟩
 refine st (v:=.pointer (some ⟨g5,0,none⟩)) (x_assign (.tmp rfl rfl)) ?_
 refine st (v:=.int .i64 0) (x_assign .const) ?_
 refine c_nil (n_then (c_ret (leave_ret (res_two (v:=.pointer (some ⟨g5,0,none⟩)) (u:=.int .i64 0) rfl (.mk rfl rfl) (.mk rfl rfl)) ?_)))
 have hs9:St H _ (MM.res 78 81 37 (MM.mk (MB.new n z) g5 0 none 0 0 (.slice none 0 0) []) ++ (L)):=St.upL (L:=L) (A:=[]) [_] hs8
 exact ⟨(MM.mk (MB.new n z) g5 0 none 0 0 (.slice none 0 0) []),rfl,(MM.ok.new (by omega) (by omega) (by omega)),rfl,hs9⟩
end Go.Proofs.YtcccaihjgoaehaaDoor

set_option linter.unusedVariables false
set_option linter.unusedSimpArgs false
namespace Go.Proofs.YtcccaihjgoaehaaDoor
open Go Go.FM Go.Proofs
attribute [local irreducible] wpList wpQuiet wpS Code.wp Calls
end Go.Proofs.YtcccaihjgoaehaaDoor

set_option linter.unusedVariables false
set_option linter.unusedSimpArgs false
namespace Go.Proofs.YtcccaihjgoaehaaDoor
open Go Go.FM Go.Proofs
attribute [local irreducible] wpList wpQuiet wpS Code.wp Calls
set_option maxHeartbeats 8000000 in
theorem awake_spec {H:Hp} {w:World} {L:List Res} (hs:St H w (L)) (htab:Tab H):Calls Tryd.prog 10 #[] w (fun e w' => e = .returned (.bool true)∧St H w' (L)):=by
 refine enter (args:=[]) (N:=90) Tryd.func10 rfl rfl rfl ?_
 refine c_seq (c_region (st (v:=.bool false) (x_assign .const) ?_))
 refine c_nil (n_then (c_seq (c_region (st_c cb11 .func (evs2 .const .const) (new_mm hs 2 0 (by omega) (by omega) (by omega)) ?_))))
 rintro e w1 ⟨mm3,rfl,mok4,hmm5,hs2⟩
 refine ⟨_,rfl,?_⟩
 refine st (v:=.tuple #[.pointer (some ⟨mm3.g,0,none⟩),.int .i64 0]) (x_move (.tmp rfl rfl)) ?_
 refine st (v:=.pointer (some ⟨mm3.g,0,none⟩)) (x_extract (.tmp rfl rfl) (i:=0) rfl) ?_
 refine st (v:=.int .i64 0) (x_extract (.tmp rfl rfl) (i:=1) rfl) ?_
 refine st (v:=.pointer (some ⟨mm3.g,0,none⟩)) (x_assign (.tmp rfl rfl)) ?_
 refine st (v:=.int .i64 0) (x_assign (.tmp rfl rfl)) ?_
 refine c_nil (n_then (c_seq (c_seq (c_region (st (v:=.int .i64 0) (x_move (.tmp rfl rfl)) ?_)))))
 refine st (v:=.bool false) (x_neq (k:=.i64) (a:=0) (b:=0) (.tmp rfl rfl) .const) ?_
 refine st (v:=.bool false) (x_move (.tmp rfl rfl)) ?_
 refine g_yes (yl (dj:=14) (b:=false) rfl rfl rfl) ?_
 refine st (v:=.pointer (some ⟨mm3.g,0,none⟩)) (x_move (.tmp rfl rfl)) ?_
 refine g_yes (yl (dj:=14) (b:=false) rfl rfl rfl) ?_
 refine st (v:=.bool false) (x_eqlP Tryd.underlying23 (.tmp rfl rfl) .const rfl) ?_
 refine st (v:=.bool false) (x_pick_f (.tmp rfl rfl) (.tmp rfl rfl)) ?_
 refine c_nil (n_then (c_cond_f (t:=false) (.tmp rfl rfl) rfl ?_))
 refine c_skip (n_then (c_seq (c_region (st (v:=.pointer (some ⟨mm3.g,0,none⟩)) (x_move (.tmp rfl rfl)) ?_))))
 refine st (v:=.agg #[.int .u64 0,.int .i64 0,.int .i64 0,.slice none 0 0]) (bl37 (ps:=[]) Evp.nil rfl) ?_
 have hs8:St H _ (MM.res 78 81 37 mm3 ++ (L)):=St.upL [] hs2
 have hr9:kState.rep H (GState.mk (GViewID.mk 0 0) 0 []) [.int .u64 0,.int .i64 0,.int .i64 0,.slice none 0 0]:=⟨none,0,0,rfl,(show 0 < 18446744073709551616 from by omega),(show IB 0 from ⟨by omega,by omega⟩),(show IB 0 from ⟨by omega,by omega⟩),(Sl.nil _ _ none)⟩
 refine st_c cb12 .func (evs3 (.tmp rfl rfl) .const (.tmp rfl rfl)) (tick_mm hs8 (x:=mm3) mok4 3 (by decide) (GState.mk (GViewID.mk 0 0) 0 []) hr9 (by decide) htab) ?_
 rintro e w10 ⟨H12,v14,cs17,iv19,mm21,hle13,rfl,ok15,hk18,hin20,mok22,hmg23,hmm24,hs11⟩
 refine ⟨_,rfl,?_⟩
 have hs26:=St.upL [row 53 16 v14 (((MB.tick mm3.m 3 (GState.mk (GViewID.mk 0 0) 0 [])).2.1).length) cs17] hs11
 have hs25:St H12 _ (row 53 16 v14 (((MB.tick mm3.m 3 (GState.mk (GViewID.mk 0 0) 0 [])).2.1).length) cs17::MM.res 78 81 37 mm21 ++ (L)):=St.downL [row 53 16 v14 (((MB.tick mm3.m 3 (GState.mk (GViewID.mk 0 0) 0 [])).2.1).length) cs17] hs26
 refine st (v:=.tuple #[v14,iv19]) (x_move (.tmp rfl rfl)) ?_
 refine st (v:=v14) (x_extract (.tmp rfl rfl) (i:=0) rfl) ?_
 refine st (v:=iv19) (x_extract (.tmp rfl rfl) (i:=1) rfl) ?_
 refine st (v:=v14) (x_assign (.tmp rfl rfl)) ?_
 refine st (v:=iv19) (x_assign (.tmp rfl rfl)) ?_
 refine c_nil (n_then (c_seq (c_seq (c_region (st (v:=v14) (x_move (.tmp rfl rfl)) ?_)))))
 obtain ⟨A27,c28,hv29,hc30⟩:=ok15.slice
 refine st (v:=.int .i64 ((((MB.tick mm3.m 3 (GState.mk (GViewID.mk 0 0) 0 [])).2.1).length:Nat):Int)) (x_len (n:=((MB.tick mm3.m 3 (GState.mk (GViewID.mk 0 0) 0 [])).2.1).length) Tryd.underlying27 (.tmp rfl hv29)) ?_
 refine st (v:=.bool (decide ((((((MB.tick mm3.m 3 (GState.mk (GViewID.mk 0 0) 0 [])).2.1).length:Nat):Int):Int) ≠ 1))) (x_neq (k:=.i64) (a:=((((MB.tick mm3.m 3 (GState.mk (GViewID.mk 0 0) 0 [])).2.1).length:Nat):Int)) (b:=1) (.tmp rfl rfl) .const) ?_
 refine st (v:=.bool (decide ((((((MB.tick mm3.m 3 (GState.mk (GViewID.mk 0 0) 0 [])).2.1).length:Nat):Int):Int) ≠ 1))) (x_move (.tmp rfl rfl)) ?_
 have hc31:(decide ((((((MB.tick mm3.m 3 (GState.mk (GViewID.mk 0 0) 0 [])).2.1).length:Nat):Int):Int) ≠ 1)) = false:=(by rw [hmm5]; decide +kernel)
 have hp31:¬ ((((((MB.tick mm3.m 3 (GState.mk (GViewID.mk 0 0) 0 [])).2.1).length:Nat):Int):Int) ≠ 1):=of_decide_eq_false hc31
 refine g_yes (yk 27 false rfl rfl hc31) ?_
 refine st (v:=iv19) (x_move (.tmp rfl rfl)) ?_
 refine g_yes (yk 27 false rfl rfl hc31) ?_
 obtain rfl:iv19 = .pointer none:=by have h9:=hin20; rw [show (MB.tick mm3.m 3 (GState.mk (GViewID.mk 0 0) 0 [])).2.2 = none from (by rw [hmm5]; decide +kernel)] at h9; exact h9
 refine st (v:=.bool false) (x_neqP Tryd.underlying28 (.tmp rfl rfl) .const rfl) ?_
 refine st (v:=.bool false) (x_pick_f (.tmp rfl (cVb hc31)) (.tmp rfl rfl)) ?_
 refine st (v:=.bool false) (x_move (.tmp rfl rfl)) ?_
 refine g_yes (yl (dj:=31) (b:=false) rfl rfl rfl) ?_
 refine st (v:=v14) (x_move (.tmp rfl rfl)) ?_
 refine g_yes (yl (dj:=31) (b:=false) rfl rfl rfl) ?_
 obtain ⟨g39,c40,hv41⟩:=ok15.pos (by omega)
 obtain ⟨e42,cs43,hx44,hr45,hsub46⟩:=Kn.rows_get (i:=0) hk18 (by omega)
 obtain ⟨A62,n63,c64,A67,n68,c69,A71,n72,c73,rfl,⟨b47,b48⟩,b49,⟨b50,b51⟩,b52,⟨b53,b54⟩,b55,b56,⟨b57,b58⟩,b59,⟨b60,b61⟩,hl65,b66,hl70,hl74,b75,b76⟩:=hr45
 have:=hl65.len; have:n63 * 48 ≤ 140737488351232:=hl65.bnd; have:=hl65.le
 have:=hl70.len; have:n68 * 24 ≤ 140737488351232:=hl70.bnd; have:=hl70.le
 have:=hl74.len; have:n72 * 32 ≤ 140737488351232:=hl74.bnd; have:=hl74.le
 have hk_e42:=el_eval (fun o:GOut => o.F.Kind) 2 hx44 (by rw [hmm5]; decide +kernel)
 have hi_e42:=el_eval (fun o:GOut => o.F.ID) (GViewID.mk 1 0) hx44 (by rw [hmm5]; decide +kernel)
 have hk2_e42:e42.F.Kind = 2:=hk_e42
 refine st (v:=.pointer (some ⟨g39,(0 * 16),none⟩)) (ixo27 (.tmp rfl hv41) rfl (i:=0) .const (by omega) (by omega) (by omega)) ?_
 refine g_yes (yl (dj:=31) (b:=false) rfl rfl rfl) ?_
 refine st (v:=.pointer (some ⟨g39,(0 * 16) + 1,none⟩)) (fa53_1 (.tmp rfl rfl)) ?_
 refine g_yes (yl (dj:=31) (b:=false) rfl rfl rfl) ?_
 refine st (v:=.pointer (some ⟨g39,(0 * 16) + 1 + 0,none⟩)) (fa51_0 (.tmp rfl rfl)) ?_
 refine g_yes (yl (dj:=31) (b:=false) rfl rfl rfl) ?_
 refine st (v:=.int .u8 ((e42.F.Kind:Nat):Int)) (ld5 (.tmp rfl rfl) ((hs25.rowAt 0 rfl hv41 (0 * 16) hsub46).cell 1 rfl)) ?_
 refine g_yes (yl (dj:=31) (b:=false) rfl rfl rfl) ?_
 refine st (v:=.bool (decide ((((e42.F.Kind:Nat):Int):Int) ≠ 2))) (x_neq (k:=.u8) (a:=((e42.F.Kind:Nat):Int)) (b:=2) (.tmp rfl rfl) .const) ?_
 refine st (v:=.bool (decide ((((e42.F.Kind:Nat):Int):Int) ≠ 2))) (x_pick_f (.tmp rfl rfl) (.tmp rfl rfl)) ?_
 refine st (v:=.bool (decide ((((e42.F.Kind:Nat):Int):Int) ≠ 2))) (x_move (.tmp rfl rfl)) ?_
 have hc77:(decide ((((e42.F.Kind:Nat):Int):Int) ≠ 2)) = false:=(decide_eq_false (by omega))
 have hp77:¬ ((((e42.F.Kind:Nat):Int):Int) ≠ 2):=of_decide_eq_false hc77
 refine g_yes (yk 39 false rfl rfl hc77) ?_
 refine st (v:=v14) (x_move (.tmp rfl rfl)) ?_
 refine g_yes (yk 39 false rfl rfl hc77) ?_
 obtain ⟨g78,c79,hv80⟩:=ok15.pos (by omega)
 refine st (v:=.pointer (some ⟨g78,(0 * 16),none⟩)) (ixo27 (.tmp rfl hv80) rfl (i:=0) .const (by omega) (by omega) (by omega)) ?_
 refine g_yes (yk 39 false rfl rfl hc77) ?_
 refine st (v:=.pointer (some ⟨g78,(0 * 16) + 1,none⟩)) (fa53_1 (.tmp rfl rfl)) ?_
 refine g_yes (yk 39 false rfl rfl hc77) ?_
 refine st (v:=.pointer (some ⟨g78,(0 * 16) + 1 + 2,none⟩)) (fa51_2 (.tmp rfl rfl)) ?_
 refine g_yes (yk 39 false rfl rfl hc77) ?_
 refine st (v:=.agg #[.int .u64 ((e42.F.ID.N:Nat):Int),.int .i64 e42.F.ID.P]) (ld34 (cs:=[.int .u64 ((e42.F.ID.N:Nat):Int),.int .i64 e42.F.ID.P]) (.tmp rfl rfl) ((hs25.rowAt 0 rfl hv80 (0 * 16) hsub46).sub 3 rfl) rfl) ?_
 refine g_yes (yk 39 false rfl rfl hc77) ?_
 refine st (v:=.agg #[.int .u64 1,.int .i64 0]) (bl34 (ps:=[(0,.int .u64 1)]) (.cons .const Evp.nil) rfl) ?_
 refine g_yes (yk 39 false rfl rfl hc77) ?_
 refine st (v:=.bool (!((((e42.F.ID.N:Nat):Int) == 1) && ((e42.F.ID.P == 0) && true)))) (x_neqA eqg34 (.tmp rfl rfl) (.tmp rfl rfl) (fun d => eqs34 (d + 98) _ ((e42.F.ID.N:Nat):Int) 1 e42.F.ID.P 0)) ?_
 refine st (v:=.bool (!(decide (e42.F.ID = (GViewID.mk 1 0))))) (x_pick_f (.tmp rfl (cVb hc77)) (.tmp rfl (congrArg (fun z => Value.bool (!z)) (GViewID.beq_dec e42.F.ID (GViewID.mk 1 0))))) ?_
 refine c_nil (n_then ?_)
 have hc81:(decide (e42.F.ID = (GViewID.mk 1 0))) = true:=(decide_eq_true hi_e42)
 have hp81:e42.F.ID = (GViewID.mk 1 0):=of_decide_eq_true hc81
 refine c_cond_f (t:=false) (.tmp rfl (cVb (by rw [hc81]; rfl))) rfl ?_
 refine c_skip (n_then (c_seq (c_region (st (v:=.pointer (some ⟨mm21.g,0,none⟩)) (x_move (.tmp rfl (congrArg (fun z => Value.pointer (some ⟨z,0,none⟩)) hmg23.symm))) ?_))))
 refine st (v:=.agg #[.int .u64 1,.int .i64 0]) (bl34 (ps:=[(0,.int .u64 1)]) (.cons .const Evp.nil) rfl) ?_
 refine st (v:=.agg #[.int .u64 0,.int .i64 0,.int .i64 0,.slice none 0 0]) (bl37 (ps:=[]) Evp.nil rfl) ?_
 refine st_m (m_lit (n:=1) (ps:=[(0,.agg #[.int .u64 0,.int .i64 0,.int .i64 0,.slice none 0 0])]) (cs:=[.int .u64 0,.int .i64 0,.int .i64 0,.slice none 0 0]) Tryd.underlying40 inf37 (.cons (.tmp rfl rfl) Evp.nil) (by decide) (by decide) rfl rfl hs25) ?_
 rintro _ w83 ⟨g82,rfl,hs85⟩
 refine st (v:=.agg #[.int .u8 3,.int .i64 1,.int .u64 1,.int .i64 0,.int .u16 0,.int .u64 0,.int .i64 0,.int .u64 0,.int .i64 0,.slice (some ⟨g82,0,none⟩) 1 1,.int .u64 0,.slice none 0 0,.slice none 0 0,.int .u64 0,.int .u64 0]) (bl51 (ps:=[(0,.int .u8 3),(1,.int .i64 1),(2,.agg #[.int .u64 1,.int .i64 0]),(6,.slice (some ⟨g82,0,none⟩) 1 1)]) (.cons .const (.cons .const (.cons (.tmp rfl rfl) (.cons (.tmp rfl rfl) Evp.nil)))) rfl) ?_
 refine st (v:=.agg #[.int .u64 0,.int .i64 0,.int .i64 0,.slice none 0 0]) (bl37 (ps:=[]) Evp.nil rfl) ?_
 have hr91:kState.rep H12 (GState.mk (GViewID.mk 0 0) 0 []) [.int .u64 0,.int .i64 0,.int .i64 0,.slice none 0 0]:=⟨none,0,0,rfl,(show 0 < 18446744073709551616 from by omega),(show IB 0 from ⟨by omega,by omega⟩),(show IB 0 from ⟨by omega,by omega⟩),(Sl.nil _ _ none)⟩
 have hk92:kState.toKn.rows H12 [(GState.mk (GViewID.mk 0 0) 0 [])] [.int .u64 0,.int .i64 0,.int .i64 0,.slice none 0 0]:=Kn.rows_one hr91
 obtain ⟨H86,hle87,hs88,rd89,hb90⟩:=hs85.freezeObj
 have sp93:Sl kState H86 ((some ⟨g82,0,none⟩)) 1 1 [(GState.mk (GViewID.mk 0 0) 0 [])]:=⟨⟨_,rd89,Kn.rows_mono hk92 hle87⟩,rfl,Nat.le_refl _,by decide,by decide⟩
 have hs94:St H86 _ (MM.res 78 81 37 mm21 ++ (row 53 16 v14 (((MB.tick mm3.m 3 (GState.mk (GViewID.mk 0 0) 0 [])).2.1).length) cs17::L)):=St.upL [row 53 16 v14 (((MB.tick mm3.m 3 (GState.mk (GViewID.mk 0 0) 0 [])).2.1).length) cs17] hs88
 have hr95:kFrame.rep H86 (GFrame.mk 3 1 (GViewID.mk 1 0) 0 (GViewID.mk 0 0) (GViewID.mk 0 0) [(GState.mk (GViewID.mk 0 0) 0 [])] 0 [] [] 0 0) [.int .u8 3,.int .i64 1,.int .u64 1,.int .i64 0,.int .u16 0,.int .u64 0,.int .i64 0,.int .u64 0,.int .i64 0,.slice (some ⟨g82,0,none⟩) 1 1,.int .u64 0,.slice none 0 0,.slice none 0 0,.int .u64 0,.int .u64 0]:=⟨(some ⟨g82,0,none⟩),1,1,none,0,0,none,0,0,rfl,(show 3 < 256 from by omega),(show IB 1 from ⟨by omega,by omega⟩),(show 1 < 18446744073709551616 from by omega),(show IB 0 from ⟨by omega,by omega⟩),(show 0 < 65536 from by omega),(show 0 < 18446744073709551616 from by omega),(show IB 0 from ⟨by omega,by omega⟩),(show 0 < 18446744073709551616 from by omega),(show IB 0 from ⟨by omega,by omega⟩),sp93,(show 0 < 18446744073709551616 from by omega),(Sl.nil _ _ none),(Sl.nil _ _ none),(show 0 < 18446744073709551616 from by omega),(show 0 < 18446744073709551616 from by omega)⟩
 have hr96:kState.rep H86 (GState.mk (GViewID.mk 0 0) 0 []) [.int .u64 0,.int .i64 0,.int .i64 0,.slice none 0 0]:=⟨none,0,0,rfl,(show 0 < 18446744073709551616 from by omega),(show IB 0 from ⟨by omega,by omega⟩),(show IB 0 from ⟨by omega,by omega⟩),(Sl.nil _ _ none)⟩
 refine st_c cb17 .func (evs3 (.tmp rfl rfl) (.tmp rfl rfl) (.tmp rfl rfl)) (in_mm hs94 (x:=mm21) (MM.ok.mono mok22 hle87) (GFrame.mk 3 1 (GViewID.mk 1 0) 0 (GViewID.mk 0 0) (GViewID.mk 0 0) [(GState.mk (GViewID.mk 0 0) 0 [])] 0 [] [] 0 0) hr95 (GState.mk (GViewID.mk 0 0) 0 []) hr96 (hpr_of (by rw [hmm24,hmm5]; decide +kernel) (by decide)) (htab.mono (hle13.trans hle87))) ?_
 rintro e w97 ⟨H99,v101,cs104,iv106,mm108,hle100,rfl,ok102,hk105,hin107,mok109,hmg110,hmm111,hs98⟩
 refine ⟨_,rfl,?_⟩
 have hs113:=St.upL [row 53 16 v101 (((MB.inn mm21.m (GFrame.mk 3 1 (GViewID.mk 1 0) 0 (GViewID.mk 0 0) (GViewID.mk 0 0) [(GState.mk (GViewID.mk 0 0) 0 [])] 0 [] [] 0 0) (GState.mk (GViewID.mk 0 0) 0 [])).2.1).length) cs104] hs98
 have hs112:St H99 _ (row 53 16 v101 (((MB.inn mm21.m (GFrame.mk 3 1 (GViewID.mk 1 0) 0 (GViewID.mk 0 0) (GViewID.mk 0 0) [(GState.mk (GViewID.mk 0 0) 0 [])] 0 [] [] 0 0) (GState.mk (GViewID.mk 0 0) 0 [])).2.1).length) cs104::row 53 16 v14 (((MB.tick mm3.m 3 (GState.mk (GViewID.mk 0 0) 0 [])).2.1).length) cs17::MM.res 78 81 37 mm108 ++ (L)):=St.downL [row 53 16 v101 (((MB.inn mm21.m (GFrame.mk 3 1 (GViewID.mk 1 0) 0 (GViewID.mk 0 0) (GViewID.mk 0 0) [(GState.mk (GViewID.mk 0 0) 0 [])] 0 [] [] 0 0) (GState.mk (GViewID.mk 0 0) 0 [])).2.1).length) cs104,row 53 16 v14 (((MB.tick mm3.m 3 (GState.mk (GViewID.mk 0 0) 0 [])).2.1).length) cs17] hs113
 refine st (v:=.tuple #[v101,iv106,.int .i64 ((MB.inn mm21.m (GFrame.mk 3 1 (GViewID.mk 1 0) 0 (GViewID.mk 0 0) (GViewID.mk 0 0) [(GState.mk (GViewID.mk 0 0) 0 [])] 0 [] [] 0 0) (GState.mk (GViewID.mk 0 0) 0 [])).2.2.2)]) (x_move (.tmp rfl rfl)) ?_
 refine st (v:=v101) (x_extract (.tmp rfl rfl) (i:=0) rfl) ?_
 refine st (v:=iv106) (x_extract (.tmp rfl rfl) (i:=1) rfl) ?_
 refine st (v:=.int .i64 ((MB.inn mm21.m (GFrame.mk 3 1 (GViewID.mk 1 0) 0 (GViewID.mk 0 0) (GViewID.mk 0 0) [(GState.mk (GViewID.mk 0 0) 0 [])] 0 [] [] 0 0) (GState.mk (GViewID.mk 0 0) 0 [])).2.2.2)) (x_extract (.tmp rfl rfl) (i:=2) rfl) ?_
 refine st (v:=v101) (x_assign (.tmp rfl rfl)) ?_
 refine st (v:=iv106) (x_assign (.tmp rfl rfl)) ?_
 refine st (v:=.int .i64 ((MB.inn mm21.m (GFrame.mk 3 1 (GViewID.mk 1 0) 0 (GViewID.mk 0 0) (GViewID.mk 0 0) [(GState.mk (GViewID.mk 0 0) 0 [])] 0 [] [] 0 0) (GState.mk (GViewID.mk 0 0) 0 [])).2.2.2)) (x_assign (.tmp rfl rfl)) ?_
 refine c_nil (n_then (c_seq (c_region (st (v:=.int .i64 ((MB.inn mm21.m (GFrame.mk 3 1 (GViewID.mk 1 0) 0 (GViewID.mk 0 0) (GViewID.mk 0 0) [(GState.mk (GViewID.mk 0 0) 0 [])] 0 [] [] 0 0) (GState.mk (GViewID.mk 0 0) 0 [])).2.2.2)) (x_move (.tmp rfl rfl)) ?_))))
 refine st (v:=.bool (decide ((((MB.inn mm21.m (GFrame.mk 3 1 (GViewID.mk 1 0) 0 (GViewID.mk 0 0) (GViewID.mk 0 0) [(GState.mk (GViewID.mk 0 0) 0 [])] 0 [] [] 0 0) (GState.mk (GViewID.mk 0 0) 0 [])).2.2.2):Int) = 0))) (x_eql (k:=.i64) (a:=((MB.inn mm21.m (GFrame.mk 3 1 (GViewID.mk 1 0) 0 (GViewID.mk 0 0) (GViewID.mk 0 0) [(GState.mk (GViewID.mk 0 0) 0 [])] 0 [] [] 0 0) (GState.mk (GViewID.mk 0 0) 0 [])).2.2.2)) (b:=0) (.tmp rfl rfl) .const) ?_
 refine st (v:=.bool (decide ((((MB.inn mm21.m (GFrame.mk 3 1 (GViewID.mk 1 0) 0 (GViewID.mk 0 0) (GViewID.mk 0 0) [(GState.mk (GViewID.mk 0 0) 0 [])] 0 [] [] 0 0) (GState.mk (GViewID.mk 0 0) 0 [])).2.2.2):Int) = 0))) (x_move (.tmp rfl rfl)) ?_
 have hc114:(decide ((((MB.inn mm21.m (GFrame.mk 3 1 (GViewID.mk 1 0) 0 (GViewID.mk 0 0) (GViewID.mk 0 0) [(GState.mk (GViewID.mk 0 0) 0 [])] 0 [] [] 0 0) (GState.mk (GViewID.mk 0 0) 0 [])).2.2.2):Int) = 0)) = true:=(by rw [hmm24,hmm5]; decide +kernel)
 have hp114:(((MB.inn mm21.m (GFrame.mk 3 1 (GViewID.mk 1 0) 0 (GViewID.mk 0 0) (GViewID.mk 0 0) [(GState.mk (GViewID.mk 0 0) 0 [])] 0 [] [] 0 0) (GState.mk (GViewID.mk 0 0) 0 [])).2.2.2):Int) = 0:=of_decide_eq_true hc114
 refine g_yes (yk 61 true rfl rfl hc114) ?_
 refine st (v:=iv106) (x_move (.tmp rfl rfl)) ?_
 refine g_yes (yk 61 true rfl rfl hc114) ?_
 obtain ⟨yi115,gi116,ci117,hX118,rfl,hrd119,hrp120⟩:∃ y g cs,(MB.inn mm21.m (GFrame.mk 3 1 (GViewID.mk 1 0) 0 (GViewID.mk 0 0) (GViewID.mk 0 0) [(GState.mk (GViewID.mk 0 0) 0 [])] 0 [] [] 0 0) (GState.mk (GViewID.mk 0 0) 0 [])).2.2.1 = some y∧iv106 = .pointer (some ⟨g,0,none⟩)∧Rd H99 (some ⟨g,0,none⟩) cs∧kInstall.rep H99 y cs:=by rcases InstAt.cases hin107 with ⟨h9,_⟩ | h9; exact absurd h9 (by rw [hmm24,hmm5]; decide +kernel); exact h9
 obtain ⟨A126,n127,c128,rfl,b122,⟨b123,b124⟩,b125,hl129⟩:=hrp120
 have:=hl129.len; have:n127 * 48 ≤ 140737488351232:=hl129.bnd; have:=hl129.le
 have hat121:∀ {w:World} {L:List Res},St H99 w L → At w ⟨gi116,0,none⟩ [.int .u64 ((yi115.View.ID.N:Nat):Int),.int .i64 yi115.View.ID.P,.int .u16 ((yi115.View.Set:Nat):Int),.slice A126 n127 c128]:=fun h => hrd119.hat h
 have hvs:=el_eval2 (fun i:GInstall => i.View.Set) 3 hX118 (by rw [hmm24,hmm5]; decide +kernel)
 have hvs2:yi115.View.Set = 3:=hvs
 refine st (v:=.bool true) (x_neqP Tryd.underlying28 (.tmp rfl rfl) .const rfl) ?_
 refine st (v:=.bool true) (x_pick_t (.tmp rfl (cVb hc114)) (.tmp rfl rfl)) ?_
 refine st (v:=.bool true) (x_move (.tmp rfl rfl)) ?_
 refine g_yes (yl (dj:=65) (b:=true) rfl rfl rfl) ?_
 refine st (v:=.pointer (some ⟨gi116,0,none⟩)) (x_move (.tmp rfl rfl)) ?_
 refine g_yes (yl (dj:=65) (b:=true) rfl rfl rfl) ?_
 refine st (v:=.pointer (some ⟨gi116,0,none⟩)) (x_nilCheck (.tmp rfl rfl)) ?_
 refine g_yes (yl (dj:=65) (b:=true) rfl rfl rfl) ?_
 refine st (v:=.pointer (some ⟨gi116,0 + 0,none⟩)) (fa42_0 (.tmp rfl rfl)) ?_
 refine g_yes (yl (dj:=65) (b:=true) rfl rfl rfl) ?_
 refine st (v:=.pointer (some ⟨gi116,0 + 0 + 2,none⟩)) (fa39_1 (.tmp rfl rfl)) ?_
 refine g_yes (yl (dj:=65) (b:=true) rfl rfl rfl) ?_
 refine st (v:=.int .u16 ((yi115.View.Set:Nat):Int)) (ld31 (.tmp rfl rfl) ((hat121 hs112).cell 2 rfl)) ?_
 refine g_yes (yl (dj:=65) (b:=true) rfl rfl rfl) ?_
 refine st (v:=.bool (decide ((((yi115.View.Set:Nat):Int):Int) = 3))) (x_eql (k:=.u16) (a:=((yi115.View.Set:Nat):Int)) (b:=3) (.tmp rfl rfl) .const) ?_
 refine st (v:=.bool (decide ((((yi115.View.Set:Nat):Int):Int) = 3))) (x_pick_t (.tmp rfl rfl) (.tmp rfl rfl)) ?_
 refine st (v:=.bool (decide ((((yi115.View.Set:Nat):Int):Int) = 3))) (x_move (.tmp rfl rfl)) ?_
 have hc130:(decide ((((yi115.View.Set:Nat):Int):Int) = 3)) = true:=(decide_eq_true (by omega))
 have hp130:(((yi115.View.Set:Nat):Int):Int) = 3:=of_decide_eq_true hc130
 refine g_yes (yk 73 true rfl rfl hc130) ?_
 refine st (v:=v101) (x_move (.tmp rfl rfl)) ?_
 refine g_yes (yk 73 true rfl rfl hc130) ?_
 obtain ⟨A131,c132,hv133,hc134⟩:=ok102.slice
 refine st (v:=.int .i64 ((((MB.inn mm21.m (GFrame.mk 3 1 (GViewID.mk 1 0) 0 (GViewID.mk 0 0) (GViewID.mk 0 0) [(GState.mk (GViewID.mk 0 0) 0 [])] 0 [] [] 0 0) (GState.mk (GViewID.mk 0 0) 0 [])).2.1).length:Nat):Int)) (x_len (n:=((MB.inn mm21.m (GFrame.mk 3 1 (GViewID.mk 1 0) 0 (GViewID.mk 0 0) (GViewID.mk 0 0) [(GState.mk (GViewID.mk 0 0) 0 [])] 0 [] [] 0 0) (GState.mk (GViewID.mk 0 0) 0 [])).2.1).length) Tryd.underlying27 (.tmp rfl hv133)) ?_
 refine g_yes (yk 73 true rfl rfl hc130) ?_
 refine st (v:=.bool (decide ((((((MB.inn mm21.m (GFrame.mk 3 1 (GViewID.mk 1 0) 0 (GViewID.mk 0 0) (GViewID.mk 0 0) [(GState.mk (GViewID.mk 0 0) 0 [])] 0 [] [] 0 0) (GState.mk (GViewID.mk 0 0) 0 [])).2.1).length:Nat):Int):Int) = 1))) (x_eql (k:=.i64) (a:=((((MB.inn mm21.m (GFrame.mk 3 1 (GViewID.mk 1 0) 0 (GViewID.mk 0 0) (GViewID.mk 0 0) [(GState.mk (GViewID.mk 0 0) 0 [])] 0 [] [] 0 0) (GState.mk (GViewID.mk 0 0) 0 [])).2.1).length:Nat):Int)) (b:=1) (.tmp rfl rfl) .const) ?_
 refine st (v:=.bool (decide ((((((MB.inn mm21.m (GFrame.mk 3 1 (GViewID.mk 1 0) 0 (GViewID.mk 0 0) (GViewID.mk 0 0) [(GState.mk (GViewID.mk 0 0) 0 [])] 0 [] [] 0 0) (GState.mk (GViewID.mk 0 0) 0 [])).2.1).length:Nat):Int):Int) = 1))) (x_pick_t (.tmp rfl (cVb hc130)) (.tmp rfl rfl)) ?_
 refine st (v:=.bool (decide ((((((MB.inn mm21.m (GFrame.mk 3 1 (GViewID.mk 1 0) 0 (GViewID.mk 0 0) (GViewID.mk 0 0) [(GState.mk (GViewID.mk 0 0) 0 [])] 0 [] [] 0 0) (GState.mk (GViewID.mk 0 0) 0 [])).2.1).length:Nat):Int):Int) = 1))) (x_move (.tmp rfl rfl)) ?_
 have hc135:(decide ((((((MB.inn mm21.m (GFrame.mk 3 1 (GViewID.mk 1 0) 0 (GViewID.mk 0 0) (GViewID.mk 0 0) [(GState.mk (GViewID.mk 0 0) 0 [])] 0 [] [] 0 0) (GState.mk (GViewID.mk 0 0) 0 [])).2.1).length:Nat):Int):Int) = 1)) = true:=(by rw [hmm24,hmm5]; decide +kernel)
 have hp135:(((((MB.inn mm21.m (GFrame.mk 3 1 (GViewID.mk 1 0) 0 (GViewID.mk 0 0) (GViewID.mk 0 0) [(GState.mk (GViewID.mk 0 0) 0 [])] 0 [] [] 0 0) (GState.mk (GViewID.mk 0 0) 0 [])).2.1).length:Nat):Int):Int) = 1:=of_decide_eq_true hc135
 refine g_yes (yk 78 true rfl rfl hc135) ?_
 refine st (v:=v101) (x_move (.tmp rfl rfl)) ?_
 refine g_yes (yk 78 true rfl rfl hc135) ?_
 obtain ⟨g136,c137,hv138⟩:=ok102.pos (by omega)
 obtain ⟨e139,cs140,hx141,hr142,hsub143⟩:=Kn.rows_get (i:=0) hk105 (by omega)
 obtain ⟨A159,n160,c161,A164,n165,c166,A168,n169,c170,rfl,⟨b144,b145⟩,b146,⟨b147,b148⟩,b149,⟨b150,b151⟩,b152,b153,⟨b154,b155⟩,b156,⟨b157,b158⟩,hl162,b163,hl167,hl171,b172,b173⟩:=hr142
 have:=hl162.len; have:n160 * 48 ≤ 140737488351232:=hl162.bnd; have:=hl162.le
 have:=hl167.len; have:n165 * 24 ≤ 140737488351232:=hl167.bnd; have:=hl167.le
 have:=hl171.len; have:n169 * 32 ≤ 140737488351232:=hl171.bnd; have:=hl171.le
 have hk_e139:=el_eval (fun o:GOut => o.F.Kind) 5 hx141 (by rw [hmm24,hmm5]; decide +kernel)
 have hk2_e139:e139.F.Kind = 5:=hk_e139
 refine st (v:=.pointer (some ⟨g136,(0 * 16),none⟩)) (ixo27 (.tmp rfl hv138) rfl (i:=0) .const (by omega) (by omega) (by omega)) ?_
 refine g_yes (yk 78 true rfl rfl hc135) ?_
 refine st (v:=.pointer (some ⟨g136,(0 * 16) + 1,none⟩)) (fa53_1 (.tmp rfl rfl)) ?_
 refine g_yes (yk 78 true rfl rfl hc135) ?_
 refine st (v:=.pointer (some ⟨g136,(0 * 16) + 1 + 0,none⟩)) (fa51_0 (.tmp rfl rfl)) ?_
 refine g_yes (yk 78 true rfl rfl hc135) ?_
 refine st (v:=.int .u8 ((e139.F.Kind:Nat):Int)) (ld5 (.tmp rfl rfl) ((hs112.rowAt 0 rfl hv138 (0 * 16) hsub143).cell 1 rfl)) ?_
 refine g_yes (yk 78 true rfl rfl hc135) ?_
 refine st (v:=.bool (decide ((((e139.F.Kind:Nat):Int):Int) = 5))) (x_eql (k:=.u8) (a:=((e139.F.Kind:Nat):Int)) (b:=5) (.tmp rfl rfl) .const) ?_
 refine st (v:=.bool (decide ((((e139.F.Kind:Nat):Int):Int) = 5))) (x_pick_t (.tmp rfl (cVb hc135)) (.tmp rfl rfl)) ?_
 refine st (v:=.bool (decide ((((e139.F.Kind:Nat):Int):Int) = 5))) (x_move (.tmp rfl rfl)) ?_
 have hc174:(decide ((((e139.F.Kind:Nat):Int):Int) = 5)) = true:=(decide_eq_true (by omega))
 have hp174:(((e139.F.Kind:Nat):Int):Int) = 5:=of_decide_eq_true hc174
 refine g_yes (yk 86 true rfl rfl hc174) ?_
 refine st (v:=.pointer (some ⟨mm108.g,0,none⟩)) (x_move (.tmp rfl ((congrArg (fun z => Value.pointer (some ⟨z,0,none⟩)) hmg23.symm).trans (congrArg (fun z => Value.pointer (some ⟨z,0,none⟩)) hmg110.symm)))) ?_
 refine g_yes (yk 86 true rfl rfl hc174) ?_
 have hs175:St H99 _ (MM.res 78 81 37 mm108 ++ (row 53 16 v101 (((MB.inn mm21.m (GFrame.mk 3 1 (GViewID.mk 1 0) 0 (GViewID.mk 0 0) (GViewID.mk 0 0) [(GState.mk (GViewID.mk 0 0) 0 [])] 0 [] [] 0 0) (GState.mk (GViewID.mk 0 0) 0 [])).2.1).length) cs104::row 53 16 v14 (((MB.tick mm3.m 3 (GState.mk (GViewID.mk 0 0) 0 [])).2.1).length) cs17::L)):=St.upL [row 53 16 v101 (((MB.inn mm21.m (GFrame.mk 3 1 (GViewID.mk 1 0) 0 (GViewID.mk 0 0) (GViewID.mk 0 0) [(GState.mk (GViewID.mk 0 0) 0 [])] 0 [] [] 0 0) (GState.mk (GViewID.mk 0 0) 0 [])).2.1).length) cs104,row 53 16 v14 (((MB.tick mm3.m 3 (GState.mk (GViewID.mk 0 0) 0 [])).2.1).length) cs17] hs112
 refine st_c cb15 .func (evs1 (.tmp rfl rfl)) (opn_mm hs175 (x:=mm108) mok109 ) ?_
 rintro e w176 ⟨rfl,hs177⟩
 refine ⟨_,rfl,?_⟩
 have hs178:St H99 _ (row 53 16 v101 (((MB.inn mm21.m (GFrame.mk 3 1 (GViewID.mk 1 0) 0 (GViewID.mk 0 0) (GViewID.mk 0 0) [(GState.mk (GViewID.mk 0 0) 0 [])] 0 [] [] 0 0) (GState.mk (GViewID.mk 0 0) 0 [])).2.1).length) cs104::row 53 16 v14 (((MB.tick mm3.m 3 (GState.mk (GViewID.mk 0 0) 0 [])).2.1).length) cs17::MM.res 78 81 37 mm108 ++ (L)):=St.downL [row 53 16 v101 (((MB.inn mm21.m (GFrame.mk 3 1 (GViewID.mk 1 0) 0 (GViewID.mk 0 0) (GViewID.mk 0 0) [(GState.mk (GViewID.mk 0 0) 0 [])] 0 [] [] 0 0) (GState.mk (GViewID.mk 0 0) 0 [])).2.1).length) cs104,row 53 16 v14 (((MB.tick mm3.m 3 (GState.mk (GViewID.mk 0 0) 0 [])).2.1).length) cs17] hs177
 refine st (v:=.bool mm108.m.opn) (x_pick_t (.tmp rfl (cVb hc174)) (.tmp rfl rfl)) ?_
 refine st (v:=.bool mm108.m.opn) (x_assign (.tmp rfl rfl)) ?_
 refine c_nil (n_then (c_ret (leave_ret (res_one (v:=.bool mm108.m.opn) rfl (.mk rfl rfl)) ?_)))
 have hyes:mm108.m.opn = true:=(by rw [hmm111,hmm24,hmm5]; decide +kernel)
 rw [hyes]
 exact ⟨rfl,((St.dropL [] hs178.drop.drop).weaken ((hle13.trans hle87).trans hle100))⟩
end Go.Proofs.YtcccaihjgoaehaaDoor

set_option linter.unusedVariables false
set_option linter.unusedSimpArgs false
namespace Go.Proofs.YtcccaihjgoaehaaDoor
open Go Go.FM Go.Proofs
attribute [local irreducible] wpList wpQuiet wpS Code.wp Calls
set_option maxHeartbeats 8000000 in
theorem alone_law {H:Hp} {w:World} {L:List Res} (hs:St H w (L)) (n:Nat) (b_n:n < 256) (z:Nat) (b_z:z < 256) (ticks:Nat) (b_ticks:ticks < 256) (htab:Tab H):Calls Tryd.prog 3 #[.int .u8 ((n:Nat):Int),.int .u8 ((z:Nat):Int),.int .u8 ((ticks:Nat):Int)] w (fun e w' => e = .returned (.bool true)∧St H w' (L)):=by
 refine enter (args:=[.int .u8 ((n:Nat):Int),.int .u8 ((z:Nat):Int),.int .u8 ((ticks:Nat):Int)]) (N:=109) Tryd.func3 rfl rfl rfl ?_
 refine c_seq (c_region (st (v:=.bool false) (x_assign .const) ?_))
 refine c_nil (n_then (c_seq (c_seq (c_region (st_c cb10 .func (evs0 ) (awake_spec hs  htab) ?_)))))
 rintro e w1 ⟨rfl,hs2⟩
 refine ⟨_,rfl,?_⟩
 refine st (v:=.bool false) (x_not (b:=true) (.tmp rfl rfl)) ?_
 refine c_nil (n_then (c_cond_f (t:=false) (.tmp rfl rfl) rfl ?_))
 refine c_skip (n_then (c_seq (c_region (st (v:=.int .u8 ((n:Nat):Int)) (x_move (.tmp rfl rfl)) ?_))))
 refine st (v:=.int .i64 ((n:Nat):Int)) (x_conv (k:=.u8) (a:=((n:Nat):Int)) Tryd.underlying5 Tryd.underlying3 (.tmp rfl rfl) (w64 (by omega) (by omega))) ?_
 refine st (v:=.int .i64 (((n % 16):Nat):Int)) (x_remN (k:=.i64) (m:=n) (n:=16) (.tmp rfl rfl) .const (by omega)) ?_
 refine st (v:=.int .i64 (((1 + (n % 16)):Nat):Int)) (x_add (k:=.i64) (a:=1) (b:=(((n % 16):Nat):Int)) .const (.tmp rfl rfl) ((w64 (by omega) (by omega)).trans (by omega))) ?_
 refine st (v:=.int .i64 (((1 + (n % 16)):Nat):Int)) (x_assign (.tmp rfl rfl)) ?_
 refine c_nil (n_then (c_seq (c_region (st (v:=.int .u8 ((z:Nat):Int)) (x_move (.tmp rfl rfl)) ?_))))
 refine st (v:=.int .i64 ((z:Nat):Int)) (x_conv (k:=.u8) (a:=((z:Nat):Int)) Tryd.underlying5 Tryd.underlying3 (.tmp rfl rfl) (w64 (by omega) (by omega))) ?_
 refine st (v:=.int .i64 (((1 + (n % 16)):Nat):Int)) (x_move (.tmp rfl rfl)) ?_
 have:z % (1 + (n % 16)) < (1 + (n % 16)):=Nat.mod_lt _ (by omega)
 refine st (v:=.int .i64 (((z % (1 + (n % 16))):Nat):Int)) (x_remN (k:=.i64) (m:=z) (n:=(1 + (n % 16))) (.tmp rfl rfl) (.tmp rfl rfl) (by omega)) ?_
 refine st (v:=.int .i64 (((z % (1 + (n % 16))):Nat):Int)) (x_assign (.tmp rfl rfl)) ?_
 refine c_nil (n_then (c_seq (c_region (st (v:=.int .i64 (((1 + (n % 16)):Nat):Int)) (x_move (.tmp rfl rfl)) ?_))))
 refine st (v:=.int .i64 (((z % (1 + (n % 16))):Nat):Int)) (x_move (.tmp rfl rfl)) ?_
 refine st_c cb11 .func (evs2 (.tmp rfl rfl) (.tmp rfl rfl)) (new_mm hs2 (1 + (n % 16)) (z % (1 + (n % 16))) (by omega) (by omega) (by omega)) ?_
 rintro e w3 ⟨mm5,rfl,mok6,hmm7,hs4⟩
 refine ⟨_,rfl,?_⟩
 refine st (v:=.tuple #[.pointer (some ⟨mm5.g,0,none⟩),.int .i64 0]) (x_move (.tmp rfl rfl)) ?_
 refine st (v:=.pointer (some ⟨mm5.g,0,none⟩)) (x_extract (.tmp rfl rfl) (i:=0) rfl) ?_
 refine st (v:=.int .i64 0) (x_extract (.tmp rfl rfl) (i:=1) rfl) ?_
 refine st (v:=.pointer (some ⟨mm5.g,0,none⟩)) (x_assign (.tmp rfl rfl)) ?_
 refine st (v:=.int .i64 0) (x_assign (.tmp rfl rfl)) ?_
 refine c_nil (n_then (c_seq (c_seq (c_region (st (v:=.int .i64 0) (x_move (.tmp rfl rfl)) ?_)))))
 refine st (v:=.bool false) (x_neq (k:=.i64) (a:=0) (b:=0) (.tmp rfl rfl) .const) ?_
 refine c_nil (n_then (c_cond_f (t:=false) (.tmp rfl rfl) rfl ?_))
 refine c_skip (n_then (c_seq (c_region (st (v:=.pointer (some ⟨mm5.g,0,none⟩)) (x_move (.tmp rfl rfl)) ?_))))
 refine st (v:=.agg #[.int .u64 0,.int .i64 0,.int .i64 0,.slice none 0 0]) (bl37 (ps:=[]) Evp.nil rfl) ?_
 have hs10:St H _ (MM.res 78 81 37 mm5 ++ (L)):=St.upL [] hs4
 have hr11:kState.rep H (GState.mk (GViewID.mk 0 0) 0 []) [.int .u64 0,.int .i64 0,.int .i64 0,.slice none 0 0]:=⟨none,0,0,rfl,(show 0 < 18446744073709551616 from by omega),(show IB 0 from ⟨by omega,by omega⟩),(show IB 0 from ⟨by omega,by omega⟩),(Sl.nil _ _ none)⟩
 refine st_c cb12 .func (evs3 (.tmp rfl rfl) .const (.tmp rfl rfl)) (tick_mm hs10 (x:=mm5) mok6 0 (by decide) (GState.mk (GViewID.mk 0 0) 0 []) hr11 ⟨Int.le_refl 0,by show (0:Int) ≤ 1073741824; decide⟩ htab) ?_
 rintro e w12 ⟨H14,v16,cs19,iv21,mm23,hle15,rfl,ok17,hk20,hin22,mok24,hmg25,hmm26,hs13⟩
 refine ⟨_,rfl,?_⟩
 have hs28:=St.upL [row 53 16 v16 (((MB.tick mm5.m 0 (GState.mk (GViewID.mk 0 0) 0 [])).2.1).length) cs19] hs13
 have hs27:St H14 _ (row 53 16 v16 (((MB.tick mm5.m 0 (GState.mk (GViewID.mk 0 0) 0 [])).2.1).length) cs19::MM.res 78 81 37 mm23 ++ (L)):=St.downL [row 53 16 v16 (((MB.tick mm5.m 0 (GState.mk (GViewID.mk 0 0) 0 [])).2.1).length) cs19] hs28
 refine st (v:=.tuple #[v16,iv21]) (x_move (.tmp rfl rfl)) ?_
 refine st (v:=v16) (x_extract (.tmp rfl rfl) (i:=0) rfl) ?_
 refine st (v:=iv21) (x_extract (.tmp rfl rfl) (i:=1) rfl) ?_
 refine st (v:=v16) (x_assign (.tmp rfl rfl)) ?_
 refine st (v:=iv21) (x_assign (.tmp rfl rfl)) ?_
 refine c_nil (n_then (c_seq (c_seq (q_region mixed hs27 (by kernel_rfl) ?_))))
 have hin_:(z % (1 + (n % 16))) < (1 + (n % 16)):=Nat.mod_lt _ (by omega)
 have hT:MB.tick mm5.m 0 (GState.mk (GViewID.mk 0 0) 0 []) = (aloneM ((1 + (n % 16))) ((z % (1 + (n % 16)))),[],some (GInstall.mk (GView.mk (GViewID.mk 1 (((z % (1 + (n % 16))):Nat):Int)) (wth 0 (((z % (1 + (n % 16))):Nat):Int))) [])):=by rw [hmm7]; exact new_tick (n:=(1 + (n % 16))) (i:=(z % (1 + (n % 16)))) (by omega) (by omega)
 have hM:mm23.m = aloneM (1 + (n % 16)) (z % (1 + (n % 16))):=by rw [hmm26,hT]
 refine q_st (v:=v16) (fun w hs => (x_move (.tmp rfl rfl))) ?_
 obtain ⟨A29,c30,hv31,hc32⟩:=ok17.slice
 refine q_st (v:=.int .i64 ((((MB.tick mm5.m 0 (GState.mk (GViewID.mk 0 0) 0 [])).2.1).length:Nat):Int)) (fun w hs => (x_len (n:=((MB.tick mm5.m 0 (GState.mk (GViewID.mk 0 0) 0 [])).2.1).length) Tryd.underlying27 (.tmp rfl hv31))) ?_
 refine q_st (v:=.bool (decide ((((((MB.tick mm5.m 0 (GState.mk (GViewID.mk 0 0) 0 [])).2.1).length:Nat):Int):Int) ≠ 0))) (fun w hs => (x_neq (k:=.i64) (a:=((((MB.tick mm5.m 0 (GState.mk (GViewID.mk 0 0) 0 [])).2.1).length:Nat):Int)) (b:=0) (.tmp rfl rfl) .const)) ?_
 refine q_st (v:=.bool (decide ((((((MB.tick mm5.m 0 (GState.mk (GViewID.mk 0 0) 0 [])).2.1).length:Nat):Int):Int) ≠ 0))) (fun w hs => (x_move (.tmp rfl rfl))) ?_
 have hc33:(decide ((((((MB.tick mm5.m 0 (GState.mk (GViewID.mk 0 0) 0 [])).2.1).length:Nat):Int):Int) ≠ 0)) = false:=(decide_eq_false (by rw [hT]; simp))
 have hp33:¬ ((((((MB.tick mm5.m 0 (GState.mk (GViewID.mk 0 0) 0 [])).2.1).length:Nat):Int):Int) ≠ 0):=of_decide_eq_false hc33
 refine q_yes (yk 43 false rfl rfl hc33) ?_
 refine q_st (v:=iv21) (fun w hs => (x_move (.tmp rfl rfl))) ?_
 refine q_yes (yk 43 false rfl rfl hc33) ?_
 obtain ⟨yi34,gi35,ci36,hX37,rfl,hrd38,hrp39⟩:∃ y g cs,(MB.tick mm5.m 0 (GState.mk (GViewID.mk 0 0) 0 [])).2.2 = some y∧iv21 = .pointer (some ⟨g,0,none⟩)∧Rd H14 (some ⟨g,0,none⟩) cs∧kInstall.rep H14 y cs:=by rcases InstAt.cases hin22 with ⟨h9,_⟩ | h9; exact absurd h9 (by rw [hT]; exact Option.some_ne_none _); exact h9
 obtain ⟨A45,n46,c47,rfl,b41,⟨b42,b43⟩,b44,hl48⟩:=hrp39
 have:=hl48.len; have:n46 * 48 ≤ 140737488351232:=hl48.bnd; have:=hl48.le
 have hat40:∀ {w:World} {L:List Res},St H14 w L → At w ⟨gi35,0,none⟩ [.int .u64 ((yi34.View.ID.N:Nat):Int),.int .i64 yi34.View.ID.P,.int .u16 ((yi34.View.Set:Nat):Int),.slice A45 n46 c47]:=fun h => hrd38.hat h
 have hyi:=(Option.some.inj ((hX37).symm.trans (congrArg (fun q => q.2.2) hT)))
 have hvs:yi34.View.Set = wth 0 (((z % (1 + (n % 16))):Nat):Int):=congrArg (fun q:GInstall => q.View.Set) hyi
 have hvi:yi34.View.ID = GViewID.mk 1 (((z % (1 + (n % 16))):Nat):Int):=congrArg (fun q:GInstall => q.View.ID) hyi
 have hvl:yi34.States.length = 0:=congrArg (fun q:GInstall => q.States.length) hyi
 refine q_st (v:=.bool false) (fun w hs => (x_eqlP Tryd.underlying28 (.tmp rfl rfl) .const rfl)) ?_
 refine q_st (v:=.bool false) (fun w hs => (x_pick_f (.tmp rfl (cVb hc33)) (.tmp rfl rfl))) ?_
 refine q_st (v:=.bool false) (fun w hs => (x_move (.tmp rfl rfl))) ?_
 refine q_yes (yl (dj:=47) (b:=false) rfl rfl rfl) ?_
 refine q_st (v:=.pointer (some ⟨gi35,0,none⟩)) (fun w hs => (x_move (.tmp rfl rfl))) ?_
 refine q_yes (yl (dj:=47) (b:=false) rfl rfl rfl) ?_
 refine q_st (v:=.pointer (some ⟨gi35,0,none⟩)) (fun w hs => (x_nilCheck (.tmp rfl rfl))) ?_
 refine q_yes (yl (dj:=47) (b:=false) rfl rfl rfl) ?_
 refine q_st (v:=.pointer (some ⟨gi35,0 + 0,none⟩)) (fun w hs => (fa42_0 (.tmp rfl rfl))) ?_
 refine q_yes (yl (dj:=47) (b:=false) rfl rfl rfl) ?_
 refine q_st (v:=.pointer (some ⟨gi35,0 + 0 + 2,none⟩)) (fun w hs => (fa39_1 (.tmp rfl rfl))) ?_
 refine q_yes (yl (dj:=47) (b:=false) rfl rfl rfl) ?_
 refine q_st (v:=.int .u16 ((yi34.View.Set:Nat):Int)) (fun w hs => (ld31 (.tmp rfl rfl) ((hat40 hs).cell 2 rfl))) ?_
 refine q_yes (yl (dj:=47) (b:=false) rfl rfl rfl) ?_
 refine q_st (v:=.int .i64 (((z % (1 + (n % 16))):Nat):Int)) (fun w hs => (x_move (.tmp rfl rfl))) ?_
 refine q_yes (yl (dj:=47) (b:=false) rfl rfl rfl) ?_
 refine q_c (v:=.int .u16 (((wth 0 (((z % (1 + (n % 16))):Nat):Int)):Nat):Int)) cb13 .func (evs2 .const (.tmp rfl rfl)) (fun w hs => rwith_spec hs 0 (((z % (1 + (n % 16))):Nat):Int) (by decide) (by omega)) ?_
 refine q_yes (yl (dj:=47) (b:=false) rfl rfl rfl) ?_
 refine q_st (v:=.bool (decide ((((yi34.View.Set:Nat):Int):Int) ≠ (((wth 0 (((z % (1 + (n % 16))):Nat):Int)):Nat):Int)))) (fun w hs => (x_neq (k:=.u16) (a:=((yi34.View.Set:Nat):Int)) (b:=(((wth 0 (((z % (1 + (n % 16))):Nat):Int)):Nat):Int)) (.tmp rfl rfl) (.tmp rfl rfl))) ?_
 refine q_st (v:=.bool (decide ((((yi34.View.Set:Nat):Int):Int) ≠ (((wth 0 (((z % (1 + (n % 16))):Nat):Int)):Nat):Int)))) (fun w hs => (x_pick_f (.tmp rfl rfl) (.tmp rfl rfl))) ?_
 refine q_st (v:=.bool (decide ((((yi34.View.Set:Nat):Int):Int) ≠ (((wth 0 (((z % (1 + (n % 16))):Nat):Int)):Nat):Int)))) (fun w hs => (x_move (.tmp rfl rfl))) ?_
 have hc49:(decide ((((yi34.View.Set:Nat):Int):Int) ≠ (((wth 0 (((z % (1 + (n % 16))):Nat):Int)):Nat):Int))) = false:=(decide_eq_false (fun h => h (by rw [hvs])))
 have hp49:¬ ((((yi34.View.Set:Nat):Int):Int) ≠ (((wth 0 (((z % (1 + (n % 16))):Nat):Int)):Nat):Int)):=of_decide_eq_false hc49
 refine q_yes (yk 57 false rfl rfl hc49) ?_
 refine q_st (v:=.pointer (some ⟨gi35,0,none⟩)) (fun w hs => (x_move (.tmp rfl rfl))) ?_
 refine q_yes (yk 57 false rfl rfl hc49) ?_
 refine q_st (v:=.pointer (some ⟨gi35,0,none⟩)) (fun w hs => (x_nilCheck (.tmp rfl rfl))) ?_
 refine q_yes (yk 57 false rfl rfl hc49) ?_
 refine q_st (v:=.pointer (some ⟨gi35,0 + 0,none⟩)) (fun w hs => (fa42_0 (.tmp rfl rfl))) ?_
 refine q_yes (yk 57 false rfl rfl hc49) ?_
 refine q_st (v:=.pointer (some ⟨gi35,0 + 0 + 0,none⟩)) (fun w hs => (fa39_0 (.tmp rfl rfl))) ?_
 refine q_yes (yk 57 false rfl rfl hc49) ?_
 refine q_st (v:=.agg #[.int .u64 ((yi34.View.ID.N:Nat):Int),.int .i64 yi34.View.ID.P]) (fun w hs => (ld34 (cs:=[.int .u64 ((yi34.View.ID.N:Nat):Int),.int .i64 yi34.View.ID.P]) (.tmp rfl rfl) ((hat40 hs).sub 0 rfl) rfl)) ?_
 refine q_yes (yk 57 false rfl rfl hc49) ?_
 refine q_st (v:=.int .i64 (((z % (1 + (n % 16))):Nat):Int)) (fun w hs => (x_move (.tmp rfl rfl))) ?_
 refine q_yes (yk 57 false rfl rfl hc49) ?_
 refine q_st (v:=.agg #[.int .u64 1,.int .i64 (((z % (1 + (n % 16))):Nat):Int)]) (fun w hs => (bl34 (ps:=[(0,.int .u64 1),(1,.int .i64 (((z % (1 + (n % 16))):Nat):Int))]) (.cons .const (.cons (.tmp rfl rfl) Evp.nil)) rfl)) ?_
 refine q_yes (yk 57 false rfl rfl hc49) ?_
 refine q_st (v:=.bool (!((((yi34.View.ID.N:Nat):Int) == 1) && ((yi34.View.ID.P == (((z % (1 + (n % 16))):Nat):Int)) && true)))) (fun w hs => (x_neqA eqg34 (.tmp rfl rfl) (.tmp rfl rfl) (fun d => eqs34 (d + 98) _ ((yi34.View.ID.N:Nat):Int) 1 yi34.View.ID.P (((z % (1 + (n % 16))):Nat):Int)))) ?_
 refine q_st (v:=.bool (!(decide (yi34.View.ID = (GViewID.mk 1 (((z % (1 + (n % 16))):Nat):Int)))))) (fun w hs => (x_pick_f (.tmp rfl (cVb hc49)) (.tmp rfl (congrArg (fun z => Value.bool (!z)) (GViewID.beq_dec yi34.View.ID (GViewID.mk 1 (((z % (1 + (n % 16))):Nat):Int))))))) ?_
 refine q_st (v:=.bool (!(decide (yi34.View.ID = (GViewID.mk 1 (((z % (1 + (n % 16))):Nat):Int)))))) (fun w hs => (x_move (.tmp rfl rfl))) ?_
 have hc50:(decide (yi34.View.ID = (GViewID.mk 1 (((z % (1 + (n % 16))):Nat):Int)))) = true:=(decide_eq_true hvi)
 have hp50:yi34.View.ID = (GViewID.mk 1 (((z % (1 + (n % 16))):Nat):Int)):=of_decide_eq_true hc50
 refine q_yes (yl (dj:=67) (b:=false) rfl rfl (cVb (by rw [hc50]; rfl))) ?_
 refine q_st (v:=.pointer (some ⟨gi35,0,none⟩)) (fun w hs => (x_move (.tmp rfl rfl))) ?_
 refine q_yes (yl (dj:=67) (b:=false) rfl rfl (cVb (by rw [hc50]; rfl))) ?_
 refine q_st (v:=.pointer (some ⟨gi35,0,none⟩)) (fun w hs => (x_nilCheck (.tmp rfl rfl))) ?_
 refine q_yes (yl (dj:=67) (b:=false) rfl rfl (cVb (by rw [hc50]; rfl))) ?_
 refine q_st (v:=.pointer (some ⟨gi35,0 + 3,none⟩)) (fun w hs => (fa42_1 (.tmp rfl rfl))) ?_
 refine q_yes (yl (dj:=67) (b:=false) rfl rfl (cVb (by rw [hc50]; rfl))) ?_
 refine q_st (v:=.slice A45 n46 c47) (fun w hs => (ld40 (.tmp rfl rfl) ((hat40 hs).cell 3 rfl))) ?_
 refine q_yes (yl (dj:=67) (b:=false) rfl rfl (cVb (by rw [hc50]; rfl))) ?_
 refine q_st (v:=.int .i64 ((n46:Nat):Int)) (fun w hs => (x_len (n:=n46) Tryd.underlying40 (.tmp rfl rfl))) ?_
 refine q_yes (yl (dj:=67) (b:=false) rfl rfl (cVb (by rw [hc50]; rfl))) ?_
 refine q_st (v:=.bool (decide ((((n46:Nat):Int):Int) ≠ 0))) (fun w hs => (x_neq (k:=.i64) (a:=((n46:Nat):Int)) (b:=0) (.tmp rfl rfl) .const)) ?_
 refine q_st (v:=.bool (decide ((((n46:Nat):Int):Int) ≠ 0))) (fun w hs => (x_pick_f (.tmp rfl (cVb (by rw [hc50]; rfl))) (.tmp rfl rfl))) ?_
 refine q_nil ?_
 intro w hs51
 refine n_then ?_
 have hc52:(decide ((((n46:Nat):Int):Int) ≠ 0)) = false:=(decide_eq_false (by omega))
 have hp52:¬ ((((n46:Nat):Int):Int) ≠ 0):=of_decide_eq_false hc52
 refine c_cond_f (t:=false) (.tmp rfl (cVb hc52)) rfl ?_
 refine c_skip (n_then (c_seq (c_seq (c_region (st (v:=.int .i64 0) (x_assign .const) ?_)))))
 refine c_nil (n_then (c_block (c_loop (fun ρ w mm => ∃ (H53:Hp) (t:Nat) (y:MM),ρ 2 = .int .u8 ((ticks:Nat):Int)∧ρ 8 = .int .i64 (((z % (1 + (n % 16))):Nat):Int)∧ρ 9 = .pointer (some ⟨y.g,0,none⟩)∧ρ 13 = .int .i64 ((t:Nat):Int)∧(H14.le H53)∧(MM.ok y H53)∧(y.m = aloneM (1 + (n % 16)) (z % (1 + (n % 16))))∧(t ≤ ticks % 30)∧St H53 w (MM.res 78 81 37 y ++ (L))∧mm = ticks % 30 - t) _ ⟨H14,0,mm23,rfl,rfl,(congrArg (fun z => Value.pointer (some ⟨z,0,none⟩)) hmg25.symm),rfl,(Hp.le.refl _),mok24,hM,(by omega),hs51.drop,rfl⟩ ?_)))
 rintro ρ w mm ⟨H53,t,y,hρ55,hρ56,hρ57,hρ58,hg54,oky,hy,ht,hs59,rfl⟩
 refine c_seq (c_seq (c_region (st (v:=.int .i64 ((t:Nat):Int)) (x_move (.tmp rfl hρ58)) ?_)))
 refine st (v:=.int .u8 ((ticks:Nat):Int)) (x_move (.tmp rfl hρ55)) ?_
 refine st (v:=.int .i64 ((ticks:Nat):Int)) (x_conv (k:=.u8) (a:=((ticks:Nat):Int)) Tryd.underlying5 Tryd.underlying3 (.tmp rfl rfl) (w64 (by omega) (by omega))) ?_
 refine st (v:=.int .i64 (((ticks % 30):Nat):Int)) (x_remN (k:=.i64) (m:=ticks) (n:=30) (.tmp rfl rfl) .const (by omega)) ?_
 refine st (v:=.bool (decide ((((t:Nat):Int):Int) < (((ticks % 30):Nat):Int)))) (x_lss (k:=.i64) (a:=((t:Nat):Int)) (b:=(((ticks % 30):Nat):Int)) (.tmp rfl rfl) (.tmp rfl rfl)) ?_
 refine c_nil (n_then ?_)
 rcases Bool.eq_false_or_eq_true (decide ((((t:Nat):Int):Int) < (((ticks % 30):Nat):Int))) with hc60 | hc60
 have hp60:(((t:Nat):Int):Int) < (((ticks % 30):Nat):Int):=of_decide_eq_true hc60
 refine c_cond_t (t:=true) (.tmp rfl (cVb hc60)) rfl ?_
 refine c_skip (n_then (c_seq (c_block (c_seq (c_region (st (v:=.pointer (some ⟨y.g,0,none⟩)) (x_move (.tmp rfl hρ57)) ?_))))))
 refine st (v:=.int .i64 (((z % (1 + (n % 16))):Nat):Int)) (x_move (.tmp rfl hρ56)) ?_
 refine st_c cb13 .func (evs2 .const (.tmp rfl rfl)) (rwith_spec hs59 0 (((z % (1 + (n % 16))):Nat):Int) (by decide) (by omega)) ?_
 rintro e w61 ⟨rfl,hs62⟩
 refine ⟨_,rfl,?_⟩
 refine st (v:=.pointer (some ⟨y.g,0,none⟩)) (x_move (.tmp rfl hρ57)) ?_
 have hs63:St H53 _ (MM.res 78 81 37 y ++ (L)):=St.upL [] hs62
 refine st_c cb14 .func (evs1 (.tmp rfl rfl)) (cur_mm hs63 (x:=y) oky ) ?_
 rintro e w65 ⟨cs67,rfl,hr68,hs66⟩
 obtain ⟨rfl,b69,⟨b70,b71⟩,b72⟩:=hr68
 refine ⟨_,rfl,?_⟩
 have hs73:St H53 _ (MM.res 78 81 37 y ++ (L)):=St.downL [] hs66
 refine st (v:=.agg #[.int .u64 ((y.m.cur.ID.N:Nat):Int),.int .i64 y.m.cur.ID.P]) (x_field Tryd.underlying39 rfl (.tmp rfl rfl) (fun w => (part_agg (by kernel_rfl) inf34 rfl))) ?_
 refine st (v:=.agg #[.int .u64 ((y.m.cur.ID.N:Nat):Int),.int .i64 y.m.cur.ID.P,.int .i64 0,.slice none 0 0]) (bl37 (ps:=[(0,.agg #[.int .u64 ((y.m.cur.ID.N:Nat):Int),.int .i64 y.m.cur.ID.P])]) (.cons (.tmp rfl rfl) Evp.nil) rfl) ?_
 have hs74:St H53 _ (MM.res 78 81 37 y ++ (L)):=St.upL [] hs73
 have hr75:kState.rep H53 (GState.mk y.m.cur.ID 0 []) [.int .u64 ((y.m.cur.ID.N:Nat):Int),.int .i64 y.m.cur.ID.P,.int .i64 0,.slice none 0 0]:=⟨none,0,0,rfl,b69,⟨b70,b71⟩,(show IB 0 from ⟨by omega,by omega⟩),(Sl.nil _ _ none)⟩
 refine st_c cb12 .func (evs3 (.tmp rfl rfl) (.tmp rfl rfl) (.tmp rfl rfl)) (tick_mm hs74 (x:=y) oky (wth 0 (((z % (1 + (n % 16))):Nat):Int)) (wth_lt (by decide) (((z % (1 + (n % 16))):Nat):Int)) (GState.mk y.m.cur.ID 0 []) hr75 ⟨Int.le_refl 0,by show (0:Int) ≤ 1073741824; decide⟩ (htab.mono (hle15.trans hg54))) ?_
 rintro e w76 ⟨H78,v80,cs83,iv85,mm87,hle79,rfl,ok81,hk84,hin86,mok88,hmg89,hmm90,hs77⟩
 refine ⟨_,rfl,?_⟩
 have hs92:=St.upL [row 53 16 v80 (((MB.tick y.m (wth 0 (((z % (1 + (n % 16))):Nat):Int)) (GState.mk y.m.cur.ID 0 [])).2.1).length) cs83] hs77
 have hs91:St H78 _ (row 53 16 v80 (((MB.tick y.m (wth 0 (((z % (1 + (n % 16))):Nat):Int)) (GState.mk y.m.cur.ID 0 [])).2.1).length) cs83::MM.res 78 81 37 mm87 ++ (L)):=St.downL [row 53 16 v80 (((MB.tick y.m (wth 0 (((z % (1 + (n % 16))):Nat):Int)) (GState.mk y.m.cur.ID 0 [])).2.1).length) cs83] hs92
 refine st (v:=.tuple #[v80,iv85]) (x_move (.tmp rfl rfl)) ?_
 refine st (v:=v80) (x_extract (.tmp rfl rfl) (i:=0) rfl) ?_
 refine st (v:=iv85) (x_extract (.tmp rfl rfl) (i:=1) rfl) ?_
 refine st (v:=v80) (x_assign (.tmp rfl rfl)) ?_
 refine st (v:=iv85) (x_assign (.tmp rfl rfl)) ?_
 refine c_nil (n_then (c_seq (c_region ?_)))
 have hT2:MB.tick y.m (wth 0 (((z % (1 + (n % 16))):Nat):Int)) (GState.mk y.m.cur.ID 0 []) = (aloneM ((1 + (n % 16))) ((z % (1 + (n % 16)))),[],none):=by rw [hy]; exact alone_tick (n:=(1 + (n % 16))) (i:=(z % (1 + (n % 16)))) (by omega) (by omega)
 refine st (v:=v80) (x_move (.tmp rfl rfl)) ?_
 obtain ⟨A93,c94,hv95,hc96⟩:=ok81.slice
 refine st (v:=.int .i64 ((((MB.tick y.m (wth 0 (((z % (1 + (n % 16))):Nat):Int)) (GState.mk y.m.cur.ID 0 [])).2.1).length:Nat):Int)) (x_len (n:=((MB.tick y.m (wth 0 (((z % (1 + (n % 16))):Nat):Int)) (GState.mk y.m.cur.ID 0 [])).2.1).length) Tryd.underlying27 (.tmp rfl hv95)) ?_
 refine st (v:=.bool (decide ((((((MB.tick y.m (wth 0 (((z % (1 + (n % 16))):Nat):Int)) (GState.mk y.m.cur.ID 0 [])).2.1).length:Nat):Int):Int) ≠ 0))) (x_neq (k:=.i64) (a:=((((MB.tick y.m (wth 0 (((z % (1 + (n % 16))):Nat):Int)) (GState.mk y.m.cur.ID 0 [])).2.1).length:Nat):Int)) (b:=0) (.tmp rfl rfl) .const) ?_
 refine st (v:=.bool (decide ((((((MB.tick y.m (wth 0 (((z % (1 + (n % 16))):Nat):Int)) (GState.mk y.m.cur.ID 0 [])).2.1).length:Nat):Int):Int) ≠ 0))) (x_move (.tmp rfl rfl)) ?_
 have hc97:(decide ((((((MB.tick y.m (wth 0 (((z % (1 + (n % 16))):Nat):Int)) (GState.mk y.m.cur.ID 0 [])).2.1).length:Nat):Int):Int) ≠ 0)) = false:=(decide_eq_false (by rw [hT2]; simp))
 have hp97:¬ ((((((MB.tick y.m (wth 0 (((z % (1 + (n % 16))):Nat):Int)) (GState.mk y.m.cur.ID 0 [])).2.1).length:Nat):Int):Int) ≠ 0):=of_decide_eq_false hc97
 refine g_yes (yk 96 false rfl rfl hc97) ?_
 refine st (v:=iv85) (x_move (.tmp rfl rfl)) ?_
 refine g_yes (yk 96 false rfl rfl hc97) ?_
 obtain rfl:iv85 = .pointer none:=by have h9:=hin86; rw [show (MB.tick y.m (wth 0 (((z % (1 + (n % 16))):Nat):Int)) (GState.mk y.m.cur.ID 0 [])).2.2 = none from (by rw [hT2])] at h9; exact h9
 refine st (v:=.bool false) (x_neqP Tryd.underlying28 (.tmp rfl rfl) .const rfl) ?_
 refine st (v:=.bool false) (x_pick_f (.tmp rfl (cVb hc97)) (.tmp rfl rfl)) ?_
 refine c_nil (n_then (c_cond_f (t:=false) (.tmp rfl rfl) rfl ?_))
 refine c_skip (n_block (n_then (c_region (st (v:=.int .i64 ((t:Nat):Int)) (x_move (.tmp rfl hρ58)) ?_))))
 refine st (v:=.int .i64 (((t + 1):Nat):Int)) (x_add (k:=.i64) (a:=((t:Nat):Int)) (b:=1) (.tmp rfl rfl) .const ((w64 (by omega) (by omega)).trans (by omega))) ?_
 refine st (v:=.int .i64 (((t + 1):Nat):Int)) (x_assign (.tmp rfl rfl)) ?_
 refine c_nil ?_
 refine n_then ⟨_,_,rfl,?_,H78,(t + 1),mm87,hρ55,hρ56,(hρ57.trans (congrArg (fun z => Value.pointer (some ⟨z,0,none⟩)) hmg89.symm)),rfl,(hg54.trans hle79),mok88,(by rw [hmm90,hT2]),(by omega),hs91.drop,rfl⟩
 omega
 have hp60:¬ ((((t:Nat):Int):Int) < (((ticks % 30):Nat):Int)):=of_decide_eq_false hc60
 refine c_cond_f (t:=false) (.tmp rfl (cVb hc60)) rfl ?_
 refine c_exit (x_then (x_then (x_here (n_then (c_seq (c_region (st (v:=.pointer (some ⟨y.g,0,none⟩)) (x_move (.tmp rfl hρ57)) ?_)))))))
 have hs105:St H53 _ (MM.res 78 81 37 y ++ (L)):=St.upL [] hs59
 refine st_c cb15 .func (evs1 (.tmp rfl rfl)) (opn_mm hs105 (x:=y) oky ) ?_
 rintro e w106 ⟨rfl,hs107⟩
 refine ⟨_,rfl,?_⟩
 have hs108:St H53 _ (MM.res 78 81 37 y ++ (L)):=St.downL [] hs107
 refine st (v:=.bool y.m.opn) (x_move (.tmp rfl rfl)) ?_
 have hc109:y.m.opn = true:=(by rw [hy]; exact alone_open)
 refine g_yes (yk 102 true rfl rfl hc109) ?_
 refine st (v:=.pointer (some ⟨y.g,0,none⟩)) (x_move (.tmp rfl hρ57)) ?_
 refine g_yes (yk 102 true rfl rfl hc109) ?_
 have hs110:St H53 _ (MM.res 78 81 37 y ++ (L)):=St.upL [] hs108
 refine st_c cb14 .func (evs1 (.tmp rfl rfl)) (cur_mm hs110 (x:=y) oky ) ?_
 rintro e w111 ⟨cs113,rfl,hr114,hs112⟩
 obtain ⟨rfl,b115,⟨b116,b117⟩,b118⟩:=hr114
 refine ⟨_,rfl,?_⟩
 have hs119:St H53 _ (MM.res 78 81 37 y ++ (L)):=St.downL [] hs112
 refine g_yes (yk 102 true rfl rfl hc109) ?_
 refine st (v:=.agg #[.int .u64 ((y.m.cur.ID.N:Nat):Int),.int .i64 y.m.cur.ID.P]) (x_field Tryd.underlying39 rfl (.tmp rfl rfl) (fun w => (part_agg (by kernel_rfl) inf34 rfl))) ?_
 refine g_yes (yk 102 true rfl rfl hc109) ?_
 refine st (v:=.int .u64 ((y.m.cur.ID.N:Nat):Int)) (x_field Tryd.underlying34 rfl (.tmp rfl rfl) (fun w => (part_one (by kernel_rfl) rfl))) ?_
 refine g_yes (yk 102 true rfl rfl hc109) ?_
 refine st (v:=.bool (decide ((((y.m.cur.ID.N:Nat):Int):Int) = 1))) (x_eql (k:=.u64) (a:=((y.m.cur.ID.N:Nat):Int)) (b:=1) (.tmp rfl rfl) .const) ?_
 refine st (v:=.bool (decide ((((y.m.cur.ID.N:Nat):Int):Int) = 1))) (x_pick_t (.tmp rfl (cVb hc109)) (.tmp rfl rfl)) ?_
 refine st (v:=.bool (decide ((((y.m.cur.ID.N:Nat):Int):Int) = 1))) (x_assign (.tmp rfl rfl)) ?_
 refine c_nil (n_then (c_ret (leave_ret (res_one (v:=.bool (decide ((((y.m.cur.ID.N:Nat):Int):Int) = 1))) rfl (.mk rfl rfl)) ?_)))
 have hyes:(decide ((((y.m.cur.ID.N:Nat):Int):Int) = 1)) = true:=(decide_eq_true (by rw [hy]; rfl))
 rw [hyes]
 exact ⟨rfl,((St.dropL [] hs119).weaken (hle15.trans hg54))⟩
end Go.Proofs.YtcccaihjgoaehaaDoor
