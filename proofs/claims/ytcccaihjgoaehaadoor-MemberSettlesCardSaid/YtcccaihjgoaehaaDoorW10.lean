/- Steps of the proofs over the functions of this seat, printed by a program (gen.py) and checked by Lean. -/
import Derived.Test.YtcccaihjgoaehaaDoorW01
import Derived.Test.YtcccaihjgoaehaaDoorW00
import Derived.Test.YtcccaihjgoaehaaDoorW03
import Derived.Test.YtcccaihjgoaehaaDoorW09
set_option linter.unusedVariables false
set_option linter.unusedSimpArgs false
namespace Go.Proofs.YtcccaihjgoaehaaDoor
open Go Go.FM Go.Proofs
attribute [local irreducible] wpList wpQuiet wpS Code.wp Calls
theorem prom_mm {H:Hp} {w:World} {L:List Res} {x:MM} (hs:St H w (MM.res 78 81 37 x ++ L)) (ok:x.ok H):Calls Tryd.prog 19 #[.pointer (some ⟨x.g,0,none⟩)] w (fun e w' => ∃ (cs0:List Value),e = .returned (.agg cs0.toArray)∧kViewID.rep H x.m.prom cs0∧St H w' (MM.res 78 81 37 x ++ L)):=by
  obtain ⟨⟨n,self,cur,prom,high,prop,jl,os⟩,g,gp,A,jn,jc,sv,sc⟩:=x
  cases prop with
  | none => exact prom_X (m_prop:=none) hs ok.b
  | some p => exact prom_X (m_prop:=some p) hs ok.b
theorem cur_mm {H:Hp} {w:World} {L:List Res} {x:MM} (hs:St H w (MM.res 78 81 37 x ++ L)) (ok:x.ok H):Calls Tryd.prog 14 #[.pointer (some ⟨x.g,0,none⟩)] w (fun e w' => ∃ (cs0:List Value),e = .returned (.agg cs0.toArray)∧kView.rep H x.m.cur cs0∧St H w' (MM.res 78 81 37 x ++ L)):=by
  obtain ⟨⟨n,self,cur,prom,high,prop,jl,os⟩,g,gp,A,jn,jc,sv,sc⟩:=x
  cases prop with
  | none => exact cur_X (m_prop:=none) hs ok.b
  | some p => exact cur_X (m_prop:=some p) hs ok.b
theorem opn_mm {H:Hp} {w:World} {L:List Res} {x:MM} (hs:St H w (MM.res 78 81 37 x ++ L)) (ok:x.ok H):Calls Tryd.prog 15 #[.pointer (some ⟨x.g,0,none⟩)] w (fun e w' => e = .returned (.bool x.m.opn)∧St H w' (MM.res 78 81 37 x ++ L)):=by
  obtain ⟨⟨n,self,cur,prom,high,prop,jl,os⟩,g,gp,A,jn,jc,sv,sc⟩:=x
  cases prop with
  | none => exact opn_X (m_prop:=none) hs ok.b
  | some p => exact opn_X (m_prop:=some p) hs ok.b
theorem tick_mm {H:Hp} {w:World} {L:List Res} {x:MM} (hs:St H w (MM.res 78 81 37 x ++ L)) (ok:x.ok H) (est:Nat) (b_est:est < 65536) (sx:GState) {k_sx:List Value} (h_sx:kState.rep H sx k_sx) (hfl:0 ≤ sx.Floor∧sx.Floor ≤ 1073741824) (htab:Tab H):Calls Tryd.prog 12 #[.pointer (some ⟨x.g,0,none⟩),.int .u16 ((est:Nat):Int),.agg k_sx.toArray] w (fun e w' => ∃ (H':Hp) (v0:Value) (cs0:List Value) (iv1:Value) (x':MM),H.le H'∧e = .returned (.tuple #[v0,iv1])∧RowOk kOut.sz v0 ((MB.tick x.m est sx).2.1).length cs0∧kOut.toKn.rows H' ((MB.tick x.m est sx).2.1) cs0∧InstAt H' ((MB.tick x.m est sx).2.2) iv1∧x'.ok H'∧x'.g = x.g∧x'.m = (MB.tick x.m est sx).1∧St H' w' (row 53 kOut.sz v0 ((MB.tick x.m est sx).2.1).length cs0::(MM.res 78 81 37 x' ++ L))):=by
  obtain ⟨⟨n,self,cur,prom,high,prop,jl,os⟩,g,gp,A,jn,jc,sv,sc⟩:=x
  cases prop with
  | none =>
    refine Calls.mono (tick_N hs ok.b est b_est sx h_sx hfl htab) ?_
    rintro e w' ⟨H',v0,cs0,iv,m',gp',A',jn',jc',sv',sc',hle,rfl,h1,h2,h3,h4,h5,h6⟩
    exact ⟨H',v0,cs0,iv,⟨m',g,gp',A',jn',jc',sv',sc'⟩,hle,rfl,h1,h2,h3,h4,rfl,h5,h6⟩
  | some p =>
    refine Calls.mono (tick_S hs ok.b (ok.prop p rfl) est b_est sx h_sx hfl htab) ?_
    rintro e w' ⟨H',v0,cs0,iv,m',gp',A',jn',jc',sv',sc',hle,rfl,h1,h2,h3,h4,h5,h6⟩
    exact ⟨H',v0,cs0,iv,⟨m',g,gp',A',jn',jc',sv',sc'⟩,hle,rfl,h1,h2,h3,h4,rfl,h5,h6⟩
theorem in_mm {H:Hp} {w:World} {L:List Res} {x:MM} (hs:St H w (MM.res 78 81 37 x ++ L)) (ok:x.ok H) (f:GFrame) {k_f:List Value} (h_f:kFrame.rep H f k_f) (sx:GState) {k_sx:List Value} (h_sx:kState.rep H sx k_sx) (hpr:∀ p,x.m.prop = some p → p.states.length ≤ 900000∧(∀ s ∈ p.states,0 ≤ s.Floor∧s.Floor ≤ 1073741824)∧∀ s ∈ f.States,0 ≤ s.Floor∧s.Floor ≤ 1073741824) (htab:Tab H):Calls Tryd.prog 17 #[.pointer (some ⟨x.g,0,none⟩),.agg k_f.toArray,.agg k_sx.toArray] w (fun e w' => ∃ (H':Hp) (v0:Value) (cs0:List Value) (iv1:Value) (x':MM),H.le H'∧e = .returned (.tuple #[v0,iv1,.int .i64 (MB.inn x.m f sx).2.2.2])∧RowOk kOut.sz v0 ((MB.inn x.m f sx).2.1).length cs0∧kOut.toKn.rows H' ((MB.inn x.m f sx).2.1) cs0∧InstAt H' ((MB.inn x.m f sx).2.2.1) iv1∧x'.ok H'∧x'.g = x.g∧x'.m = (MB.inn x.m f sx).1∧St H' w' (row 53 kOut.sz v0 ((MB.inn x.m f sx).2.1).length cs0::(MM.res 78 81 37 x' ++ L))):=by
  obtain ⟨⟨n,self,cur,prom,high,prop,jl,os⟩,g,gp,A,jn,jc,sv,sc⟩:=x
  cases prop with
  | none =>
    refine Calls.mono (in_N hs ok.b f h_f sx h_sx htab) ?_
    rintro e w' ⟨H',v0,cs0,iv,m',gp',A',jn',jc',sv',sc',hle,rfl,h1,h2,h3,h4,h5,h6⟩
    exact ⟨H',v0,cs0,iv,⟨m',g,gp',A',jn',jc',sv',sc'⟩,hle,rfl,h1,h2,h3,h4,rfl,h5,h6⟩
  | some p =>
    obtain ⟨q1,q2,q3⟩:=hpr p rfl
    refine Calls.mono (in_S hs ok.b (ok.prop p rfl) f h_f sx h_sx q1 q2 q3 htab) ?_
    rintro e w' ⟨H',v0,cs0,iv,m',gp',A',jn',jc',sv',sc',hle,rfl,h1,h2,h3,h4,h5,h6⟩
    exact ⟨H',v0,cs0,iv,⟨m',g,gp',A',jn',jc',sv',sc'⟩,hle,rfl,h1,h2,h3,h4,rfl,h5,h6⟩
end Go.Proofs.YtcccaihjgoaehaaDoor

set_option linter.unusedVariables false
set_option linter.unusedSimpArgs false
set_option maxRecDepth 100000
namespace Go.Proofs.YtcccaihjgoaehaaDoor
open Go Go.FM Go.Proofs
attribute [local irreducible] wpList wpQuiet wpS Code.wp Calls
set_option maxHeartbeats 8000000 in
theorem new_mm {H:Hp} {w:World} {L:List Res} (hs:St H w (L)) (n:Nat) (z:Nat) (h1:1 ≤ n) (h2:n ≤ 16) (h3:z < n):Calls Tryd.prog 11 #[.int .i64 ((n:Nat):Int),.int .i64 ((z:Nat):Int)] w (fun e w' => ∃ (x0:MM),e = .returned (.tuple #[.pointer (some ⟨x0.g,0,none⟩),.int .i64 0])∧MM.ok x0 H∧x0.m = (MB.new n z)∧St H w' (MM.res 78 81 37 x0 ++ (L))):=by
 refine enter (args:=[.int .i64 ((n:Nat):Int),.int .i64 ((z:Nat):Int)]) (N:=25) Tryd.func11 rfl rfl rfl ?_
 refine c_seq (c_region (st (v:=.pointer none) (x_assign .const) ?_))
 refine st (v:=.int .i64 0) (x_assign .const) ?_
 refine c_nil (n_then (c_seq (c_seq (c_region (st (v:=.int .i64 ((n:Nat):Int)) (x_move (.tmp rfl rfl)) ?_)))))
 refine st (v:=.bool (decide ((((n:Nat):Int):Int) < 1))) (x_lss (k:=.i64) (a:=((n:Nat):Int)) (b:=1) (.tmp rfl rfl) .const) ?_
 refine st (v:=.bool (decide ((((n:Nat):Int):Int) < 1))) (x_move (.tmp rfl rfl)) ?_
 have hc1:(decide ((((n:Nat):Int):Int) < 1)) = false:=decide_eq_false (by omega)
 refine g_yes (yk 8 false rfl rfl hc1) ?_
 refine st (v:=.int .i64 ((n:Nat):Int)) (x_move (.tmp rfl rfl)) ?_
 refine g_yes (yk 8 false rfl rfl hc1) ?_
 refine st (v:=.bool (decide ((16:Int) < ((n:Nat):Int)))) (x_gtr (k:=.i64) (a:=((n:Nat):Int)) (b:=16) (.tmp rfl rfl) .const) ?_
 refine st (v:=.bool (decide ((16:Int) < ((n:Nat):Int)))) (x_pick_f (.tmp rfl (cVb hc1)) (.tmp rfl rfl)) ?_
 refine st (v:=.bool (decide ((16:Int) < ((n:Nat):Int)))) (x_move (.tmp rfl rfl)) ?_
 have hc2:(decide ((16:Int) < ((n:Nat):Int))) = false:=decide_eq_false (by omega)
 refine g_yes (yk 12 false rfl rfl hc2) ?_
 refine st (v:=.int .i64 ((z:Nat):Int)) (x_move (.tmp rfl rfl)) ?_
 refine g_yes (yk 12 false rfl rfl hc2) ?_
 refine st (v:=.bool (decide ((((z:Nat):Int):Int) < 0))) (x_lss (k:=.i64) (a:=((z:Nat):Int)) (b:=0) (.tmp rfl rfl) .const) ?_
 refine st (v:=.bool (decide ((((z:Nat):Int):Int) < 0))) (x_pick_f (.tmp rfl (cVb hc2)) (.tmp rfl rfl)) ?_
 refine st (v:=.bool (decide ((((z:Nat):Int):Int) < 0))) (x_move (.tmp rfl rfl)) ?_
 have hc3:(decide ((((z:Nat):Int):Int) < 0)) = false:=decide_eq_false (by omega)
 refine g_yes (yk 16 false rfl rfl hc3) ?_
 refine st (v:=.int .i64 ((z:Nat):Int)) (x_move (.tmp rfl rfl)) ?_
 refine g_yes (yk 16 false rfl rfl hc3) ?_
 refine st (v:=.int .i64 ((n:Nat):Int)) (x_move (.tmp rfl rfl)) ?_
 refine g_yes (yk 16 false rfl rfl hc3) ?_
 refine st (v:=.bool (decide ((((n:Nat):Int):Int) ≤ ((z:Nat):Int)))) (x_geq (k:=.i64) (a:=((z:Nat):Int)) (b:=((n:Nat):Int)) (.tmp rfl rfl) (.tmp rfl rfl)) ?_
 refine st (v:=.bool (decide ((((n:Nat):Int):Int) ≤ ((z:Nat):Int)))) (x_pick_f (.tmp rfl (cVb hc3)) (.tmp rfl rfl)) ?_
 refine c_nil (n_then ?_)
 have hc4:(decide ((((n:Nat):Int):Int) ≤ ((z:Nat):Int))) = false:=decide_eq_false (by omega)
 refine c_cond_f (t:=false) (.tmp rfl (cVb hc4)) rfl ?_
 refine c_skip (n_then (c_seq (c_region (st (v:=.int .i64 ((n:Nat):Int)) (x_move (.tmp rfl rfl)) ?_))))
 refine st (v:=.int .i64 ((z:Nat):Int)) (x_move (.tmp rfl rfl)) ?_
 refine st (v:=.agg #[.int .i64 ((n:Nat):Int),.int .i64 ((z:Nat):Int),.int .u64 0,.int .i64 0,.int .u16 0,.int .u64 0,.int .i64 0,.int .u64 0,.pointer none,.slice none 0 0,.int .u8 0,.int .i64 0,.int .u64 0,.int .i64 0,.int .u16 0,.int .u64 0,.int .i64 0,.int .u64 0,.int .i64 0,.slice none 0 0,.int .u64 0,.slice none 0 0,.slice none 0 0,.int .u64 0,.int .u64 0,.int .u8 0,.int .i64 0,.int .u64 0,.int .i64 0,.int .u16 0,.int .u64 0,.int .i64 0,.int .u64 0,.int .i64 0,.slice none 0 0,.int .u64 0,.slice none 0 0,.slice none 0 0,.int .u64 0,.int .u64 0,.int .u8 0,.int .i64 0,.int .u64 0,.int .i64 0,.int .u16 0,.int .u64 0,.int .i64 0,.int .u64 0,.int .i64 0,.slice none 0 0,.int .u64 0,.slice none 0 0,.slice none 0 0,.int .u64 0,.int .u64 0,.int .u8 0,.int .i64 0,.int .u64 0,.int .i64 0,.int .u16 0,.int .u64 0,.int .i64 0,.int .u64 0,.int .i64 0,.slice none 0 0,.int .u64 0,.slice none 0 0,.slice none 0 0,.int .u64 0,.int .u64 0,.int .u8 0,.int .i64 0,.int .u64 0,.int .i64 0,.int .u16 0,.int .u64 0,.int .i64 0,.int .u64 0,.int .i64 0,.slice none 0 0,.int .u64 0,.slice none 0 0,.slice none 0 0,.int .u64 0,.int .u64 0,.int .u8 0,.int .i64 0,.int .u64 0,.int .i64 0,.int .u16 0,.int .u64 0,.int .i64 0,.int .u64 0,.int .i64 0,.slice none 0 0,.int .u64 0,.slice none 0 0,.slice none 0 0,.int .u64 0,.int .u64 0,.int .u8 0,.int .i64 0,.int .u64 0,.int .i64 0,.int .u16 0,.int .u64 0,.int .i64 0,.int .u64 0,.int .i64 0,.slice none 0 0,.int .u64 0,.slice none 0 0,.slice none 0 0,.int .u64 0,.int .u64 0,.int .u8 0,.int .i64 0,.int .u64 0,.int .i64 0,.int .u16 0,.int .u64 0,.int .i64 0,.int .u64 0,.int .i64 0,.slice none 0 0,.int .u64 0,.slice none 0 0,.slice none 0 0,.int .u64 0,.int .u64 0,.int .u8 0,.int .i64 0,.int .u64 0,.int .i64 0,.int .u16 0,.int .u64 0,.int .i64 0,.int .u64 0,.int .i64 0,.slice none 0 0,.int .u64 0,.slice none 0 0,.slice none 0 0,.int .u64 0,.int .u64 0,.int .u8 0,.int .i64 0,.int .u64 0,.int .i64 0,.int .u16 0,.int .u64 0,.int .i64 0,.int .u64 0,.int .i64 0,.slice none 0 0,.int .u64 0,.slice none 0 0,.slice none 0 0,.int .u64 0,.int .u64 0,.int .u8 0,.int .i64 0,.int .u64 0,.int .i64 0,.int .u16 0,.int .u64 0,.int .i64 0,.int .u64 0,.int .i64 0,.slice none 0 0,.int .u64 0,.slice none 0 0,.slice none 0 0,.int .u64 0,.int .u64 0,.int .u8 0,.int .i64 0,.int .u64 0,.int .i64 0,.int .u16 0,.int .u64 0,.int .i64 0,.int .u64 0,.int .i64 0,.slice none 0 0,.int .u64 0,.slice none 0 0,.slice none 0 0,.int .u64 0,.int .u64 0,.int .u8 0,.int .i64 0,.int .u64 0,.int .i64 0,.int .u16 0,.int .u64 0,.int .i64 0,.int .u64 0,.int .i64 0,.slice none 0 0,.int .u64 0,.slice none 0 0,.slice none 0 0,.int .u64 0,.int .u64 0,.int .u8 0,.int .i64 0,.int .u64 0,.int .i64 0,.int .u16 0,.int .u64 0,.int .i64 0,.int .u64 0,.int .i64 0,.slice none 0 0,.int .u64 0,.slice none 0 0,.slice none 0 0,.int .u64 0,.int .u64 0,.int .u8 0,.int .i64 0,.int .u64 0,.int .i64 0,.int .u16 0,.int .u64 0,.int .i64 0,.int .u64 0,.int .i64 0,.slice none 0 0,.int .u64 0,.slice none 0 0,.slice none 0 0,.int .u64 0,.int .u64 0,.int .u8 0,.int .i64 0,.int .u64 0,.int .i64 0,.int .u16 0,.int .u64 0,.int .i64 0,.int .u64 0,.int .i64 0,.slice none 0 0,.int .u64 0,.slice none 0 0,.slice none 0 0,.int .u64 0,.int .u64 0]) (bl78 (ps:=[(0,.int .i64 ((n:Nat):Int)),(1,.int .i64 ((z:Nat):Int))]) (.cons (.tmp rfl rfl) (.cons (.tmp rfl rfl) Evp.nil)) rfl) ?_
 refine st_m (m_box (cs:=[.int .i64 ((n:Nat):Int),.int .i64 ((z:Nat):Int),.int .u64 0,.int .i64 0,.int .u16 0,.int .u64 0,.int .i64 0,.int .u64 0,.pointer none,.slice none 0 0,.int .u8 0,.int .i64 0,.int .u64 0,.int .i64 0,.int .u16 0,.int .u64 0,.int .i64 0,.int .u64 0,.int .i64 0,.slice none 0 0,.int .u64 0,.slice none 0 0,.slice none 0 0,.int .u64 0,.int .u64 0,.int .u8 0,.int .i64 0,.int .u64 0,.int .i64 0,.int .u16 0,.int .u64 0,.int .i64 0,.int .u64 0,.int .i64 0,.slice none 0 0,.int .u64 0,.slice none 0 0,.slice none 0 0,.int .u64 0,.int .u64 0,.int .u8 0,.int .i64 0,.int .u64 0,.int .i64 0,.int .u16 0,.int .u64 0,.int .i64 0,.int .u64 0,.int .i64 0,.slice none 0 0,.int .u64 0,.slice none 0 0,.slice none 0 0,.int .u64 0,.int .u64 0,.int .u8 0,.int .i64 0,.int .u64 0,.int .i64 0,.int .u16 0,.int .u64 0,.int .i64 0,.int .u64 0,.int .i64 0,.slice none 0 0,.int .u64 0,.slice none 0 0,.slice none 0 0,.int .u64 0,.int .u64 0,.int .u8 0,.int .i64 0,.int .u64 0,.int .i64 0,.int .u16 0,.int .u64 0,.int .i64 0,.int .u64 0,.int .i64 0,.slice none 0 0,.int .u64 0,.slice none 0 0,.slice none 0 0,.int .u64 0,.int .u64 0,.int .u8 0,.int .i64 0,.int .u64 0,.int .i64 0,.int .u16 0,.int .u64 0,.int .i64 0,.int .u64 0,.int .i64 0,.slice none 0 0,.int .u64 0,.slice none 0 0,.slice none 0 0,.int .u64 0,.int .u64 0,.int .u8 0,.int .i64 0,.int .u64 0,.int .i64 0,.int .u16 0,.int .u64 0,.int .i64 0,.int .u64 0,.int .i64 0,.slice none 0 0,.int .u64 0,.slice none 0 0,.slice none 0 0,.int .u64 0,.int .u64 0,.int .u8 0,.int .i64 0,.int .u64 0,.int .i64 0,.int .u16 0,.int .u64 0,.int .i64 0,.int .u64 0,.int .i64 0,.slice none 0 0,.int .u64 0,.slice none 0 0,.slice none 0 0,.int .u64 0,.int .u64 0,.int .u8 0,.int .i64 0,.int .u64 0,.int .i64 0,.int .u16 0,.int .u64 0,.int .i64 0,.int .u64 0,.int .i64 0,.slice none 0 0,.int .u64 0,.slice none 0 0,.slice none 0 0,.int .u64 0,.int .u64 0,.int .u8 0,.int .i64 0,.int .u64 0,.int .i64 0,.int .u16 0,.int .u64 0,.int .i64 0,.int .u64 0,.int .i64 0,.slice none 0 0,.int .u64 0,.slice none 0 0,.slice none 0 0,.int .u64 0,.int .u64 0,.int .u8 0,.int .i64 0,.int .u64 0,.int .i64 0,.int .u16 0,.int .u64 0,.int .i64 0,.int .u64 0,.int .i64 0,.slice none 0 0,.int .u64 0,.slice none 0 0,.slice none 0 0,.int .u64 0,.int .u64 0,.int .u8 0,.int .i64 0,.int .u64 0,.int .i64 0,.int .u16 0,.int .u64 0,.int .i64 0,.int .u64 0,.int .i64 0,.slice none 0 0,.int .u64 0,.slice none 0 0,.slice none 0 0,.int .u64 0,.int .u64 0,.int .u8 0,.int .i64 0,.int .u64 0,.int .i64 0,.int .u16 0,.int .u64 0,.int .i64 0,.int .u64 0,.int .i64 0,.slice none 0 0,.int .u64 0,.slice none 0 0,.slice none 0 0,.int .u64 0,.int .u64 0,.int .u8 0,.int .i64 0,.int .u64 0,.int .i64 0,.int .u16 0,.int .u64 0,.int .i64 0,.int .u64 0,.int .i64 0,.slice none 0 0,.int .u64 0,.slice none 0 0,.slice none 0 0,.int .u64 0,.int .u64 0,.int .u8 0,.int .i64 0,.int .u64 0,.int .i64 0,.int .u16 0,.int .u64 0,.int .i64 0,.int .u64 0,.int .i64 0,.slice none 0 0,.int .u64 0,.slice none 0 0,.slice none 0 0,.int .u64 0,.int .u64 0,.int .u8 0,.int .i64 0,.int .u64 0,.int .i64 0,.int .u16 0,.int .u64 0,.int .i64 0,.int .u64 0,.int .i64 0,.slice none 0 0,.int .u64 0,.slice none 0 0,.slice none 0 0,.int .u64 0,.int .u64 0]) hs (v:=.agg #[.int .i64 ((n:Nat):Int),.int .i64 ((z:Nat):Int),.int .u64 0,.int .i64 0,.int .u16 0,.int .u64 0,.int .i64 0,.int .u64 0,.pointer none,.slice none 0 0,.int .u8 0,.int .i64 0,.int .u64 0,.int .i64 0,.int .u16 0,.int .u64 0,.int .i64 0,.int .u64 0,.int .i64 0,.slice none 0 0,.int .u64 0,.slice none 0 0,.slice none 0 0,.int .u64 0,.int .u64 0,.int .u8 0,.int .i64 0,.int .u64 0,.int .i64 0,.int .u16 0,.int .u64 0,.int .i64 0,.int .u64 0,.int .i64 0,.slice none 0 0,.int .u64 0,.slice none 0 0,.slice none 0 0,.int .u64 0,.int .u64 0,.int .u8 0,.int .i64 0,.int .u64 0,.int .i64 0,.int .u16 0,.int .u64 0,.int .i64 0,.int .u64 0,.int .i64 0,.slice none 0 0,.int .u64 0,.slice none 0 0,.slice none 0 0,.int .u64 0,.int .u64 0,.int .u8 0,.int .i64 0,.int .u64 0,.int .i64 0,.int .u16 0,.int .u64 0,.int .i64 0,.int .u64 0,.int .i64 0,.slice none 0 0,.int .u64 0,.slice none 0 0,.slice none 0 0,.int .u64 0,.int .u64 0,.int .u8 0,.int .i64 0,.int .u64 0,.int .i64 0,.int .u16 0,.int .u64 0,.int .i64 0,.int .u64 0,.int .i64 0,.slice none 0 0,.int .u64 0,.slice none 0 0,.slice none 0 0,.int .u64 0,.int .u64 0,.int .u8 0,.int .i64 0,.int .u64 0,.int .i64 0,.int .u16 0,.int .u64 0,.int .i64 0,.int .u64 0,.int .i64 0,.slice none 0 0,.int .u64 0,.slice none 0 0,.slice none 0 0,.int .u64 0,.int .u64 0,.int .u8 0,.int .i64 0,.int .u64 0,.int .i64 0,.int .u16 0,.int .u64 0,.int .i64 0,.int .u64 0,.int .i64 0,.slice none 0 0,.int .u64 0,.slice none 0 0,.slice none 0 0,.int .u64 0,.int .u64 0,.int .u8 0,.int .i64 0,.int .u64 0,.int .i64 0,.int .u16 0,.int .u64 0,.int .i64 0,.int .u64 0,.int .i64 0,.slice none 0 0,.int .u64 0,.slice none 0 0,.slice none 0 0,.int .u64 0,.int .u64 0,.int .u8 0,.int .i64 0,.int .u64 0,.int .i64 0,.int .u16 0,.int .u64 0,.int .i64 0,.int .u64 0,.int .i64 0,.slice none 0 0,.int .u64 0,.slice none 0 0,.slice none 0 0,.int .u64 0,.int .u64 0,.int .u8 0,.int .i64 0,.int .u64 0,.int .i64 0,.int .u16 0,.int .u64 0,.int .i64 0,.int .u64 0,.int .i64 0,.slice none 0 0,.int .u64 0,.slice none 0 0,.slice none 0 0,.int .u64 0,.int .u64 0,.int .u8 0,.int .i64 0,.int .u64 0,.int .i64 0,.int .u16 0,.int .u64 0,.int .i64 0,.int .u64 0,.int .i64 0,.slice none 0 0,.int .u64 0,.slice none 0 0,.slice none 0 0,.int .u64 0,.int .u64 0,.int .u8 0,.int .i64 0,.int .u64 0,.int .i64 0,.int .u16 0,.int .u64 0,.int .i64 0,.int .u64 0,.int .i64 0,.slice none 0 0,.int .u64 0,.slice none 0 0,.slice none 0 0,.int .u64 0,.int .u64 0,.int .u8 0,.int .i64 0,.int .u64 0,.int .i64 0,.int .u16 0,.int .u64 0,.int .i64 0,.int .u64 0,.int .i64 0,.slice none 0 0,.int .u64 0,.slice none 0 0,.slice none 0 0,.int .u64 0,.int .u64 0,.int .u8 0,.int .i64 0,.int .u64 0,.int .i64 0,.int .u16 0,.int .u64 0,.int .i64 0,.int .u64 0,.int .i64 0,.slice none 0 0,.int .u64 0,.slice none 0 0,.slice none 0 0,.int .u64 0,.int .u64 0,.int .u8 0,.int .i64 0,.int .u64 0,.int .i64 0,.int .u16 0,.int .u64 0,.int .i64 0,.int .u64 0,.int .i64 0,.slice none 0 0,.int .u64 0,.slice none 0 0,.slice none 0 0,.int .u64 0,.int .u64 0,.int .u8 0,.int .i64 0,.int .u64 0,.int .i64 0,.int .u16 0,.int .u64 0,.int .i64 0,.int .u64 0,.int .i64 0,.slice none 0 0,.int .u64 0,.slice none 0 0,.slice none 0 0,.int .u64 0,.int .u64 0]) (.tmp rfl rfl) rfl) ?_
 rintro _ w6 ⟨g5,rfl,hs8⟩
 refine st (v:=.pointer (some ⟨g5,0,none⟩)) (x_assign (.tmp rfl rfl)) ?_
 refine st (v:=.int .i64 0) (x_assign .const) ?_
 refine c_nil (n_then (c_ret (leave_ret (res_two (v:=.pointer (some ⟨g5,0,none⟩)) (u:=.int .i64 0) rfl (.mk rfl rfl) (.mk rfl rfl)) ?_)))
 have hs9:St H _ (MM.res 78 81 37 (MM.mk (MB.new n z) g5 0 none 0 0 (.slice none 0 0) []) ++ (L)):=St.upL (L:=L) (A:=[]) [_] hs8
 exact ⟨(MM.mk (MB.new n z) g5 0 none 0 0 (.slice none 0 0) []),rfl,(MM.ok.new (by omega) (by omega) (by omega)),rfl,hs9⟩
end Go.Proofs.YtcccaihjgoaehaaDoor

set_option linter.unusedVariables false
set_option linter.unusedSimpArgs false
namespace Go.Proofs.YtcccaihjgoaehaaDoor
open Go Go.FM Go.Proofs
attribute [local irreducible] wpList wpQuiet wpS Code.wp Calls
end Go.Proofs.YtcccaihjgoaehaaDoor

set_option linter.unusedVariables false
set_option linter.unusedSimpArgs false
namespace Go.Proofs.YtcccaihjgoaehaaDoor
open Go Go.FM Go.Proofs
attribute [local irreducible] wpList wpQuiet wpS Code.wp Calls
set_option maxHeartbeats 8000000 in
theorem awake_spec {H:Hp} {w:World} {L:List Res} (hs:St H w (L)) (htab:Tab H):Calls Tryd.prog 10 #[] w (fun e w' => e = .returned (.bool true)∧St H w' (L)):=by
 refine enter (args:=[]) (N:=90) Tryd.func10 rfl rfl rfl ?_
 refine c_seq (c_region (st (v:=.bool false) (x_assign .const) ?_))
 refine c_nil (n_then (c_seq (c_region (st_c cb11 .func (evs2 .const .const) (new_mm hs 2 0 (by omega) (by omega) (by omega)) ?_))))
 rintro e w1 ⟨mm3,rfl,mok4,hmm5,hs2⟩
 refine ⟨_,rfl,?_⟩
 refine st (v:=.tuple #[.pointer (some ⟨mm3.g,0,none⟩),.int .i64 0]) (x_move (.tmp rfl rfl)) ?_
 refine st (v:=.pointer (some ⟨mm3.g,0,none⟩)) (x_extract (.tmp rfl rfl) (i:=0) rfl) ?_
 refine st (v:=.int .i64 0) (x_extract (.tmp rfl rfl) (i:=1) rfl) ?_
 refine st (v:=.pointer (some ⟨mm3.g,0,none⟩)) (x_assign (.tmp rfl rfl)) ?_
 refine st (v:=.int .i64 0) (x_assign (.tmp rfl rfl)) ?_
 refine c_nil (n_then (c_seq (c_seq (c_region (st (v:=.int .i64 0) (x_move (.tmp rfl rfl)) ?_)))))
 refine st (v:=.bool false) (x_neq (k:=.i64) (a:=0) (b:=0) (.tmp rfl rfl) .const) ?_
 refine st (v:=.bool false) (x_move (.tmp rfl rfl)) ?_
 refine g_yes (yl (dj:=14) (b:=false) rfl rfl rfl) ?_
 refine st (v:=.pointer (some ⟨mm3.g,0,none⟩)) (x_move (.tmp rfl rfl)) ?_
 refine g_yes (yl (dj:=14) (b:=false) rfl rfl rfl) ?_
 refine st (v:=.bool false) (x_eqlP Tryd.underlying23 (.tmp rfl rfl) .const rfl) ?_
 refine st (v:=.bool false) (x_pick_f (.tmp rfl rfl) (.tmp rfl rfl)) ?_
 refine c_nil (n_then (c_cond_f (t:=false) (.tmp rfl rfl) rfl ?_))
 refine c_skip (n_then (c_seq (c_region (st (v:=.pointer (some ⟨mm3.g,0,none⟩)) (x_move (.tmp rfl rfl)) ?_))))
 refine st (v:=.agg #[.int .u64 0,.int .i64 0,.int .i64 0,.slice none 0 0]) (bl37 (ps:=[]) Evp.nil rfl) ?_
 have hs8:St H _ (MM.res 78 81 37 mm3 ++ (L)):=St.upL [] hs2
 have hr9:kState.rep H (GState.mk (GViewID.mk 0 0) 0 []) [.int .u64 0,.int .i64 0,.int .i64 0,.slice none 0 0]:=⟨none,0,0,rfl,(show 0 < 18446744073709551616 from by omega),(show IB 0 from ⟨by omega,by omega⟩),(show IB 0 from ⟨by omega,by omega⟩),(Sl.nil _ _ none)⟩
 refine st_c cb12 .func (evs3 (.tmp rfl rfl) .const (.tmp rfl rfl)) (tick_mm hs8 (x:=mm3) mok4 3 (by decide) (GState.mk (GViewID.mk 0 0) 0 []) hr9 (by decide) htab) ?_
 rintro e w10 ⟨H12,v14,cs17,iv19,mm21,hle13,rfl,ok15,hk18,hin20,mok22,hmg23,hmm24,hs11⟩
 refine ⟨_,rfl,?_⟩
 have hs26:=St.upL [row 53 16 v14 (((MB.tick mm3.m 3 (GState.mk (GViewID.mk 0 0) 0 [])).2.1).length) cs17] hs11
 have hs25:St H12 _ (row 53 16 v14 (((MB.tick mm3.m 3 (GState.mk (GViewID.mk 0 0) 0 [])).2.1).length) cs17::MM.res 78 81 37 mm21 ++ (L)):=St.downL [row 53 16 v14 (((MB.tick mm3.m 3 (GState.mk (GViewID.mk 0 0) 0 [])).2.1).length) cs17] hs26
 refine st (v:=.tuple #[v14,iv19]) (x_move (.tmp rfl rfl)) ?_
 refine st (v:=v14) (x_extract (.tmp rfl rfl) (i:=0) rfl) ?_
 refine st (v:=iv19) (x_extract (.tmp rfl rfl) (i:=1) rfl) ?_
 refine st (v:=v14) (x_assign (.tmp rfl rfl)) ?_
 refine st (v:=iv19) (x_assign (.tmp rfl rfl)) ?_
 refine c_nil (n_then (c_seq (c_seq (c_region (st (v:=v14) (x_move (.tmp rfl rfl)) ?_)))))
 obtain ⟨A27,c28,hv29,hc30⟩:=ok15.slice
 refine st (v:=.int .i64 ((((MB.tick mm3.m 3 (GState.mk (GViewID.mk 0 0) 0 [])).2.1).length:Nat):Int)) (x_len (n:=((MB.tick mm3.m 3 (GState.mk (GViewID.mk 0 0) 0 [])).2.1).length) Tryd.underlying27 (.tmp rfl hv29)) ?_
 refine st (v:=.bool (decide ((((((MB.tick mm3.m 3 (GState.mk (GViewID.mk 0 0) 0 [])).2.1).length:Nat):Int):Int) ≠ 1))) (x_neq (k:=.i64) (a:=((((MB.tick mm3.m 3 (GState.mk (GViewID.mk 0 0) 0 [])).2.1).length:Nat):Int)) (b:=1) (.tmp rfl rfl) .const) ?_
 refine st (v:=.bool (decide ((((((MB.tick mm3.m 3 (GState.mk (GViewID.mk 0 0) 0 [])).2.1).length:Nat):Int):Int) ≠ 1))) (x_move (.tmp rfl rfl)) ?_
 have hc31:(decide ((((((MB.tick mm3.m 3 (GState.mk (GViewID.mk 0 0) 0 [])).2.1).length:Nat):Int):Int) ≠ 1)) = false:=(by rw [hmm5]; decide +kernel)
 have hp31:¬ ((((((MB.tick mm3.m 3 (GState.mk (GViewID.mk 0 0) 0 [])).2.1).length:Nat):Int):Int) ≠ 1):=of_decide_eq_false hc31
 refine g_yes (yk 27 false rfl rfl hc31) ?_
 refine st (v:=iv19) (x_move (.tmp rfl rfl)) ?_
 refine g_yes (yk 27 false rfl rfl hc31) ?_
 obtain rfl:iv19 = .pointer none:=by have h9:=hin20; rw [show (MB.tick mm3.m 3 (GState.mk (GViewID.mk 0 0) 0 [])).2.2 = none from (by rw [hmm5]; decide +kernel)] at h9; exact h9
 refine st (v:=.bool false) (x_neqP Tryd.underlying28 (.tmp rfl rfl) .const rfl) ?_
 refine st (v:=.bool false) (x_pick_f (.tmp rfl (cVb hc31)) (.tmp rfl rfl)) ?_
 refine st (v:=.bool false) (x_move (.tmp rfl rfl)) ?_
 refine g_yes (yl (dj:=31) (b:=false) rfl rfl rfl) ?_
 refine st (v:=v14) (x_move (.tmp rfl rfl)) ?_
 refine g_yes (yl (dj:=31) (b:=false) rfl rfl rfl) ?_
 obtain ⟨g39,c40,hv41⟩:=ok15.pos (by omega)
 obtain ⟨e42,cs43,hx44,hr45,hsub46⟩:=Kn.rows_get (i:=0) hk18 (by omega)
 obtain ⟨A62,n63,c64,A67,n68,c69,A71,n72,c73,rfl,⟨b47,b48⟩,b49,⟨b50,b51⟩,b52,⟨b53,b54⟩,b55,b56,⟨b57,b58⟩,b59,⟨b60,b61⟩,hl65,b66,hl70,hl74,b75,b76⟩:=hr45
 have:=hl65.len; have:n63 * 48 ≤ 140737488351232:=hl65.bnd; have:=hl65.le
 have:=hl70.len; have:n68 * 24 ≤ 140737488351232:=hl70.bnd; have:=hl70.le
 have:=hl74.len; have:n72 * 32 ≤ 140737488351232:=hl74.bnd; have:=hl74.le
 have hk_e42:=el_eval (fun o:GOut => o.F.Kind) 2 hx44 (by rw [hmm5]; decide +kernel)
 have hi_e42:=el_eval (fun o:GOut => o.F.ID) (GViewID.mk 1 0) hx44 (by rw [hmm5]; decide +kernel)
 have hk2_e42:e42.F.Kind = 2:=hk_e42
 refine st (v:=.pointer (some ⟨g39,(0 * 16),none⟩)) (ixo27 (.tmp rfl hv41) rfl (i:=0) .const (by omega) (by omega) (by omega)) ?_
 refine g_yes (yl (dj:=31) (b:=false) rfl rfl rfl) ?_
 refine st (v:=.pointer (some ⟨g39,(0 * 16) + 1,none⟩)) (fa53_1 (.tmp rfl rfl)) ?_
 refine g_yes (yl (dj:=31) (b:=false) rfl rfl rfl) ?_
 refine st (v:=.pointer (some ⟨g39,(0 * 16) + 1 + 0,none⟩)) (fa51_0 (.tmp rfl rfl)) ?_
 refine g_yes (yl (dj:=31) (b:=false) rfl rfl rfl) ?_
 refine st (v:=.int .u8 ((e42.F.Kind:Nat):Int)) (ld5 (.tmp rfl rfl) ((hs25.rowAt 0 rfl hv41 (0 * 16) hsub46).cell 1 rfl)) ?_
 refine g_yes (yl (dj:=31) (b:=false) rfl rfl rfl) ?_
 refine st (v:=.bool (decide ((((e42.F.Kind:Nat):Int):Int) ≠ 2))) (x_neq (k:=.u8) (a:=((e42.F.Kind:Nat):Int)) (b:=2) (.tmp rfl rfl) .const) ?_
 refine st (v:=.bool (decide ((((e42.F.Kind:Nat):Int):Int) ≠ 2))) (x_pick_f (.tmp rfl rfl) (.tmp rfl rfl)) ?_
 refine st (v:=.bool (decide ((((e42.F.Kind:Nat):Int):Int) ≠ 2))) (x_move (.tmp rfl rfl)) ?_
 have hc77:(decide ((((e42.F.Kind:Nat):Int):Int) ≠ 2)) = false:=(decide_eq_false (by omega))
 have hp77:¬ ((((e42.F.Kind:Nat):Int):Int) ≠ 2):=of_decide_eq_false hc77
 refine g_yes (yk 39 false rfl rfl hc77) ?_
 refine st (v:=v14) (x_move (.tmp rfl rfl)) ?_
 refine g_yes (yk 39 false rfl rfl hc77) ?_
 obtain ⟨g78,c79,hv80⟩:=ok15.pos (by omega)
 refine st (v:=.pointer (some ⟨g78,(0 * 16),none⟩)) (ixo27 (.tmp rfl hv80) rfl (i:=0) .const (by omega) (by omega) (by omega)) ?_
 refine g_yes (yk 39 false rfl rfl hc77) ?_
 refine st (v:=.pointer (some ⟨g78,(0 * 16) + 1,none⟩)) (fa53_1 (.tmp rfl rfl)) ?_
 refine g_yes (yk 39 false rfl rfl hc77) ?_
 refine st (v:=.pointer (some ⟨g78,(0 * 16) + 1 + 2,none⟩)) (fa51_2 (.tmp rfl rfl)) ?_
 refine g_yes (yk 39 false rfl rfl hc77) ?_
 refine st (v:=.agg #[.int .u64 ((e42.F.ID.N:Nat):Int),.int .i64 e42.F.ID.P]) (ld34 (cs:=[.int .u64 ((e42.F.ID.N:Nat):Int),.int .i64 e42.F.ID.P]) (.tmp rfl rfl) ((hs25.rowAt 0 rfl hv80 (0 * 16) hsub46).sub 3 rfl) rfl) ?_
 refine g_yes (yk 39 false rfl rfl hc77) ?_
 refine st (v:=.agg #[.int .u64 1,.int .i64 0]) (bl34 (ps:=[(0,.int .u64 1)]) (.cons .const Evp.nil) rfl) ?_
 refine g_yes (yk 39 false rfl rfl hc77) ?_
 refine st (v:=.bool (!((((e42.F.ID.N:Nat):Int) == 1) && ((e42.F.ID.P == 0) && true)))) (x_neqA eqg34 (.tmp rfl rfl) (.tmp rfl rfl) (fun d => eqs34 (d + 98) _ ((e42.F.ID.N:Nat):Int) 1 e42.F.ID.P 0)) ?_
 refine st (v:=.bool (!(decide (e42.F.ID = (GViewID.mk 1 0))))) (x_pick_f (.tmp rfl (cVb hc77)) (.tmp rfl (congrArg (fun z => Value.bool (!z)) (GViewID.beq_dec e42.F.ID (GViewID.mk 1 0))))) ?_
 refine c_nil (n_then ?_)
 have hc81:(decide (e42.F.ID = (GViewID.mk 1 0))) = true:=(decide_eq_true hi_e42)
 have hp81:e42.F.ID = (GViewID.mk 1 0):=of_decide_eq_true hc81
 refine c_cond_f (t:=false) (.tmp rfl (cVb (by rw [hc81]; rfl))) rfl ?_
 refine c_skip (n_then (c_seq (c_region (st (v:=.pointer (some ⟨mm21.g,0,none⟩)) (x_move (.tmp rfl (congrArg (fun z => Value.pointer (some ⟨z,0,none⟩)) hmg23.symm))) ?_))))
 refine st (v:=.agg #[.int .u64 1,.int .i64 0]) (bl34 (ps:=[(0,.int .u64 1)]) (.cons .const Evp.nil) rfl) ?_
 refine st (v:=.agg #[.int .u64 0,.int .i64 0,.int .i64 0,.slice none 0 0]) (bl37 (ps:=[]) Evp.nil rfl) ?_
 refine st_m (m_lit (n:=1) (ps:=[(0,.agg #[.int .u64 0,.int .i64 0,.int .i64 0,.slice none 0 0])]) (cs:=[.int .u64 0,.int .i64 0,.int .i64 0,.slice none 0 0]) Tryd.underlying40 inf37 (.cons (.tmp rfl rfl) Evp.nil) (by decide) (by decide) rfl rfl hs25) ?_
 rintro _ w83 ⟨g82,rfl,hs85⟩
 refine st (v:=.agg #[.int .u8 3,.int .i64 1,.int .u64 1,.int .i64 0,.int .u16 0,.int .u64 0,.int .i64 0,.int .u64 0,.int .i64 0,.slice (some ⟨g82,0,none⟩) 1 1,.int .u64 0,.slice none 0 0,.slice none 0 0,.int .u64 0,.int .u64 0]) (bl51 (ps:=[(0,.int .u8 3),(1,.int .i64 1),(2,.agg #[.int .u64 1,.int .i64 0]),(6,.slice (some ⟨g82,0,none⟩) 1 1)]) (.cons .const (.cons .const (.cons (.tmp rfl rfl) (.cons (.tmp rfl rfl) Evp.nil)))) rfl) ?_
 refine st (v:=.agg #[.int .u64 0,.int .i64 0,.int .i64 0,.slice none 0 0]) (bl37 (ps:=[]) Evp.nil rfl) ?_
 have hr91:kState.rep H12 (GState.mk (GViewID.mk 0 0) 0 []) [.int .u64 0,.int .i64 0,.int .i64 0,.slice none 0 0]:=⟨none,0,0,rfl,(show 0 < 18446744073709551616 from by omega),(show IB 0 from ⟨by omega,by omega⟩),(show IB 0 from ⟨by omega,by omega⟩),(Sl.nil _ _ none)⟩
 have hk92:kState.toKn.rows H12 [(GState.mk (GViewID.mk 0 0) 0 [])] [.int .u64 0,.int .i64 0,.int .i64 0,.slice none 0 0]:=Kn.rows_one hr91
 obtain ⟨H86,hle87,hs88,rd89,hb90⟩:=hs85.freezeObj
 have sp93:Sl kState H86 ((some ⟨g82,0,none⟩)) 1 1 [(GState.mk (GViewID.mk 0 0) 0 [])]:=⟨⟨_,rd89,Kn.rows_mono hk92 hle87⟩,rfl,Nat.le_refl _,by decide,by decide⟩
 have hs94:St H86 _ (MM.res 78 81 37 mm21 ++ (row 53 16 v14 (((MB.tick mm3.m 3 (GState.mk (GViewID.mk 0 0) 0 [])).2.1).length) cs17::L)):=St.upL [row 53 16 v14 (((MB.tick mm3.m 3 (GState.mk (GViewID.mk 0 0) 0 [])).2.1).length) cs17] hs88
 have hr95:kFrame.rep H86 (GFrame.mk 3 1 (GViewID.mk 1 0) 0 (GViewID.mk 0 0) (GViewID.mk 0 0) [(GState.mk (GViewID.mk 0 0) 0 [])] 0 [] [] 0 0) [.int .u8 3,.int .i64 1,.int .u64 1,.int .i64 0,.int .u16 0,.int .u64 0,.int .i64 0,.int .u64 0,.int .i64 0,.slice (some ⟨g82,0,none⟩) 1 1,.int .u64 0,.slice none 0 0,.slice none 0 0,.int .u64 0,.int .u64 0]:=⟨(some ⟨g82,0,none⟩),1,1,none,0,0,none,0,0,rfl,(show 3 < 256 from by omega),(show IB 1 from ⟨by omega,by omega⟩),(show 1 < 18446744073709551616 from by omega),(show IB 0 from ⟨by omega,by omega⟩),(show 0 < 65536 from by omega),(show 0 < 18446744073709551616 from by omega),(show IB 0 from ⟨by omega,by omega⟩),(show 0 < 18446744073709551616 from by omega),(show IB 0 from ⟨by omega,by omega⟩),sp93,(show 0 < 18446744073709551616 from by omega),(Sl.nil _ _ none),(Sl.nil _ _ none),(show 0 < 18446744073709551616 from by omega),(show 0 < 18446744073709551616 from by omega)⟩
 have hr96:kState.rep H86 (GState.mk (GViewID.mk 0 0) 0 []) [.int .u64 0,.int .i64 0,.int .i64 0,.slice none 0 0]:=⟨none,0,0,rfl,(show 0 < 18446744073709551616 from by omega),(show IB 0 from ⟨by omega,by omega⟩),(show IB 0 from ⟨by omega,by omega⟩),(Sl.nil _ _ none)⟩
 refine st_c cb17 .func (evs3 (.tmp rfl rfl) (.tmp rfl rfl) (.tmp rfl rfl)) (in_mm hs94 (x:=mm21) (MM.ok.mono mok22 hle87) (GFrame.mk 3 1 (GViewID.mk 1 0) 0 (GViewID.mk 0 0) (GViewID.mk 0 0) [(GState.mk (GViewID.mk 0 0) 0 [])] 0 [] [] 0 0) hr95 (GState.mk (GViewID.mk 0 0) 0 []) hr96 (hpr_of (by rw [hmm24,hmm5]; decide +kernel) (by decide)) (htab.mono (hle13.trans hle87))) ?_
 rintro e w97 ⟨H99,v101,cs104,iv106,mm108,hle100,rfl,ok102,hk105,hin107,mok109,hmg110,hmm111,hs98⟩
 refine ⟨_,rfl,?_⟩
 have hs113:=St.upL [row 53 16 v101 (((MB.inn mm21.m (GFrame.mk 3 1 (GViewID.mk 1 0) 0 (GViewID.mk 0 0) (GViewID.mk 0 0) [(GState.mk (GViewID.mk 0 0) 0 [])] 0 [] [] 0 0) (GState.mk (GViewID.mk 0 0) 0 [])).2.1).length) cs104] hs98
 have hs112:St H99 _ (row 53 16 v101 (((MB.inn mm21.m (GFrame.mk 3 1 (GViewID.mk 1 0) 0 (GViewID.mk 0 0) (GViewID.mk 0 0) [(GState.mk (GViewID.mk 0 0) 0 [])] 0 [] [] 0 0) (GState.mk (GViewID.mk 0 0) 0 [])).2.1).length) cs104::row 53 16 v14 (((MB.tick mm3.m 3 (GState.mk (GViewID.mk 0 0) 0 [])).2.1).length) cs17::MM.res 78 81 37 mm108 ++ (L)):=St.downL [row 53 16 v101 (((MB.inn mm21.m (GFrame.mk 3 1 (GViewID.mk 1 0) 0 (GViewID.mk 0 0) (GViewID.mk 0 0) [(GState.mk (GViewID.mk 0 0) 0 [])] 0 [] [] 0 0) (GState.mk (GViewID.mk 0 0) 0 [])).2.1).length) cs104,row 53 16 v14 (((MB.tick mm3.m 3 (GState.mk (GViewID.mk 0 0) 0 [])).2.1).length) cs17] hs113
 refine st (v:=.tuple #[v101,iv106,.int .i64 ((MB.inn mm21.m (GFrame.mk 3 1 (GViewID.mk 1 0) 0 (GViewID.mk 0 0) (GViewID.mk 0 0) [(GState.mk (GViewID.mk 0 0) 0 [])] 0 [] [] 0 0) (GState.mk (GViewID.mk 0 0) 0 [])).2.2.2)]) (x_move (.tmp rfl rfl)) ?_
 refine st (v:=v101) (x_extract (.tmp rfl rfl) (i:=0) rfl) ?_
 refine st (v:=iv106) (x_extract (.tmp rfl rfl) (i:=1) rfl) ?_
 refine st (v:=.int .i64 ((MB.inn mm21.m (GFrame.mk 3 1 (GViewID.mk 1 0) 0 (GViewID.mk 0 0) (GViewID.mk 0 0) [(GState.mk (GViewID.mk 0 0) 0 [])] 0 [] [] 0 0) (GState.mk (GViewID.mk 0 0) 0 [])).2.2.2)) (x_extract (.tmp rfl rfl) (i:=2) rfl) ?_
 refine st (v:=v101) (x_assign (.tmp rfl rfl)) ?_
 refine st (v:=iv106) (x_assign (.tmp rfl rfl)) ?_
 refine st (v:=.int .i64 ((MB.inn mm21.m (GFrame.mk 3 1 (GViewID.mk 1 0) 0 (GViewID.mk 0 0) (GViewID.mk 0 0) [(GState.mk (GViewID.mk 0 0) 0 [])] 0 [] [] 0 0) (GState.mk (GViewID.mk 0 0) 0 [])).2.2.2)) (x_assign (.tmp rfl rfl)) ?_
 refine c_nil (n_then (c_seq (c_region (st (v:=.int .i64 ((MB.inn mm21.m (GFrame.mk 3 1 (GViewID.mk 1 0) 0 (GViewID.mk 0 0) (GViewID.mk 0 0) [(GState.mk (GViewID.mk 0 0) 0 [])] 0 [] [] 0 0) (GState.mk (GViewID.mk 0 0) 0 [])).2.2.2)) (x_move (.tmp rfl rfl)) ?_))))
 refine st (v:=.bool (decide ((((MB.inn mm21.m (GFrame.mk 3 1 (GViewID.mk 1 0) 0 (GViewID.mk 0 0) (GViewID.mk 0 0) [(GState.mk (GViewID.mk 0 0) 0 [])] 0 [] [] 0 0) (GState.mk (GViewID.mk 0 0) 0 [])).2.2.2):Int) = 0))) (x_eql (k:=.i64) (a:=((MB.inn mm21.m (GFrame.mk 3 1 (GViewID.mk 1 0) 0 (GViewID.mk 0 0) (GViewID.mk 0 0) [(GState.mk (GViewID.mk 0 0) 0 [])] 0 [] [] 0 0) (GState.mk (GViewID.mk 0 0) 0 [])).2.2.2)) (b:=0) (.tmp rfl rfl) .const) ?_
 refine st (v:=.bool (decide ((((MB.inn mm21.m (GFrame.mk 3 1 (GViewID.mk 1 0) 0 (GViewID.mk 0 0) (GViewID.mk 0 0) [(GState.mk (GViewID.mk 0 0) 0 [])] 0 [] [] 0 0) (GState.mk (GViewID.mk 0 0) 0 [])).2.2.2):Int) = 0))) (x_move (.tmp rfl rfl)) ?_
 have hc114:(decide ((((MB.inn mm21.m (GFrame.mk 3 1 (GViewID.mk 1 0) 0 (GViewID.mk 0 0) (GViewID.mk 0 0) [(GState.mk (GViewID.mk 0 0) 0 [])] 0 [] [] 0 0) (GState.mk (GViewID.mk 0 0) 0 [])).2.2.2):Int) = 0)) = true:=(by rw [hmm24,hmm5]; decide +kernel)
 have hp114:(((MB.inn mm21.m (GFrame.mk 3 1 (GViewID.mk 1 0) 0 (GViewID.mk 0 0) (GViewID.mk 0 0) [(GState.mk (GViewID.mk 0 0) 0 [])] 0 [] [] 0 0) (GState.mk (GViewID.mk 0 0) 0 [])).2.2.2):Int) = 0:=of_decide_eq_true hc114
 refine g_yes (yk 61 true rfl rfl hc114) ?_
 refine st (v:=iv106) (x_move (.tmp rfl rfl)) ?_
 refine g_yes (yk 61 true rfl rfl hc114) ?_
 obtain ⟨yi115,gi116,ci117,hX118,rfl,hrd119,hrp120⟩:∃ y g cs,(MB.inn mm21.m (GFrame.mk 3 1 (GViewID.mk 1 0) 0 (GViewID.mk 0 0) (GViewID.mk 0 0) [(GState.mk (GViewID.mk 0 0) 0 [])] 0 [] [] 0 0) (GState.mk (GViewID.mk 0 0) 0 [])).2.2.1 = some y∧iv106 = .pointer (some ⟨g,0,none⟩)∧Rd H99 (some ⟨g,0,none⟩) cs∧kInstall.rep H99 y cs:=by rcases InstAt.cases hin107 with ⟨h9,_⟩ | h9; exact absurd h9 (by rw [hmm24,hmm5]; decide +kernel); exact h9
 obtain ⟨A126,n127,c128,rfl,b122,⟨b123,b124⟩,b125,hl129⟩:=hrp120
 have:=hl129.len; have:n127 * 48 ≤ 140737488351232:=hl129.bnd; have:=hl129.le
 have hat121:∀ {w:World} {L:List Res},St H99 w L → At w ⟨gi116,0,none⟩ [.int .u64 ((yi115.View.ID.N:Nat):Int),.int .i64 yi115.View.ID.P,.int .u16 ((yi115.View.Set:Nat):Int),.slice A126 n127 c128]:=fun h => hrd119.hat h
 have hvs:=el_eval2 (fun i:GInstall => i.View.Set) 3 hX118 (by rw [hmm24,hmm5]; decide +kernel)
 have hvs2:yi115.View.Set = 3:=hvs
 refine st (v:=.bool true) (x_neqP Tryd.underlying28 (.tmp rfl rfl) .const rfl) ?_
 refine st (v:=.bool true) (x_pick_t (.tmp rfl (cVb hc114)) (.tmp rfl rfl)) ?_
 refine st (v:=.bool true) (x_move (.tmp rfl rfl)) ?_
 refine g_yes (yl (dj:=65) (b:=true) rfl rfl rfl) ?_
 refine st (v:=.pointer (some ⟨gi116,0,none⟩)) (x_move (.tmp rfl rfl)) ?_
 refine g_yes (yl (dj:=65) (b:=true) rfl rfl rfl) ?_
 refine st (v:=.pointer (some ⟨gi116,0,none⟩)) (x_nilCheck (.tmp rfl rfl)) ?_
 refine g_yes (yl (dj:=65) (b:=true) rfl rfl rfl) ?_
 refine st (v:=.pointer (some ⟨gi116,0 + 0,none⟩)) (fa42_0 (.tmp rfl rfl)) ?_
 refine g_yes (yl (dj:=65) (b:=true) rfl rfl rfl) ?_
 refine st (v:=.pointer (some ⟨gi116,0 + 0 + 2,none⟩)) (fa39_1 (.tmp rfl rfl)) ?_
 refine g_yes (yl (dj:=65) (b:=true) rfl rfl rfl) ?_
 refine st (v:=.int .u16 ((yi115.View.Set:Nat):Int)) (ld31 (.tmp rfl rfl) ((hat121 hs112).cell 2 rfl)) ?_
 refine g_yes (yl (dj:=65) (b:=true) rfl rfl rfl) ?_
 refine st (v:=.bool (decide ((((yi115.View.Set:Nat):Int):Int) = 3))) (x_eql (k:=.u16) (a:=((yi115.View.Set:Nat):Int)) (b:=3) (.tmp rfl rfl) .const) ?_
 refine st (v:=.bool (decide ((((yi115.View.Set:Nat):Int):Int) = 3))) (x_pick_t (.tmp rfl rfl) (.tmp rfl rfl)) ?_
 refine st (v:=.bool (decide ((((yi115.View.Set:Nat):Int):Int) = 3))) (x_move (.tmp rfl rfl)) ?_
 have hc130:(decide ((((yi115.View.Set:Nat):Int):Int) = 3)) = true:=(decide_eq_true (by omega))
 have hp130:(((yi115.View.Set:Nat):Int):Int) = 3:=of_decide_eq_true hc130
 refine g_yes (yk 73 true rfl rfl hc130) ?_
 refine st (v:=v101) (x_move (.tmp rfl rfl)) ?_
 refine g_yes (yk 73 true rfl rfl hc130) ?_
 obtain ⟨A131,c132,hv133,hc134⟩:=ok102.slice
 refine st (v:=.int .i64 ((((MB.inn mm21.m (GFrame.mk 3 1 (GViewID.mk 1 0) 0 (GViewID.mk 0 0) (GViewID.mk 0 0) [(GState.mk (GViewID.mk 0 0) 0 [])] 0 [] [] 0 0) (GState.mk (GViewID.mk 0 0) 0 [])).2.1).length:Nat):Int)) (x_len (n:=((MB.inn mm21.m (GFrame.mk 3 1 (GViewID.mk 1 0) 0 (GViewID.mk 0 0) (GViewID.mk 0 0) [(GState.mk (GViewID.mk 0 0) 0 [])] 0 [] [] 0 0) (GState.mk (GViewID.mk 0 0) 0 [])).2.1).length) Tryd.underlying27 (.tmp rfl hv133)) ?_
 refine g_yes (yk 73 true rfl rfl hc130) ?_
 refine st (v:=.bool (decide ((((((MB.inn mm21.m (GFrame.mk 3 1 (GViewID.mk 1 0) 0 (GViewID.mk 0 0) (GViewID.mk 0 0) [(GState.mk (GViewID.mk 0 0) 0 [])] 0 [] [] 0 0) (GState.mk (GViewID.mk 0 0) 0 [])).2.1).length:Nat):Int):Int) = 1))) (x_eql (k:=.i64) (a:=((((MB.inn mm21.m (GFrame.mk 3 1 (GViewID.mk 1 0) 0 (GViewID.mk 0 0) (GViewID.mk 0 0) [(GState.mk (GViewID.mk 0 0) 0 [])] 0 [] [] 0 0) (GState.mk (GViewID.mk 0 0) 0 [])).2.1).length:Nat):Int)) (b:=1) (.tmp rfl rfl) .const) ?_
 refine st (v:=.bool (decide ((((((MB.inn mm21.m (GFrame.mk 3 1 (GViewID.mk 1 0) 0 (GViewID.mk 0 0) (GViewID.mk 0 0) [(GState.mk (GViewID.mk 0 0) 0 [])] 0 [] [] 0 0) (GState.mk (GViewID.mk 0 0) 0 [])).2.1).length:Nat):Int):Int) = 1))) (x_pick_t (.tmp rfl (cVb hc130)) (.tmp rfl rfl)) ?_
 refine st (v:=.bool (decide ((((((MB.inn mm21.m (GFrame.mk 3 1 (GViewID.mk 1 0) 0 (GViewID.mk 0 0) (GViewID.mk 0 0) [(GState.mk (GViewID.mk 0 0) 0 [])] 0 [] [] 0 0) (GState.mk (GViewID.mk 0 0) 0 [])).2.1).length:Nat):Int):Int) = 1))) (x_move (.tmp rfl rfl)) ?_
 have hc135:(decide ((((((MB.inn mm21.m (GFrame.mk 3 1 (GViewID.mk 1 0) 0 (GViewID.mk 0 0) (GViewID.mk 0 0) [(GState.mk (GViewID.mk 0 0) 0 [])] 0 [] [] 0 0) (GState.mk (GViewID.mk 0 0) 0 [])).2.1).length:Nat):Int):Int) = 1)) = true:=(by rw [hmm24,hmm5]; decide +kernel)
 have hp135:(((((MB.inn mm21.m (GFrame.mk 3 1 (GViewID.mk 1 0) 0 (GViewID.mk 0 0) (GViewID.mk 0 0) [(GState.mk (GViewID.mk 0 0) 0 [])] 0 [] [] 0 0) (GState.mk (GViewID.mk 0 0) 0 [])).2.1).length:Nat):Int):Int) = 1:=of_decide_eq_true hc135
 refine g_yes (yk 78 true rfl rfl hc135) ?_
 refine st (v:=v101) (x_move (.tmp rfl rfl)) ?_
 refine g_yes (yk 78 true rfl rfl hc135) ?_
 obtain ⟨g136,c137,hv138⟩:=ok102.pos (by omega)
 obtain ⟨e139,cs140,hx141,hr142,hsub143⟩:=Kn.rows_get (i:=0) hk105 (by omega)
 obtain ⟨A159,n160,c161,A164,n165,c166,A168,n169,c170,rfl,⟨b144,b145⟩,b146,⟨b147,b148⟩,b149,⟨b150,b151⟩,b152,b153,⟨b154,b155⟩,b156,⟨b157,b158⟩,hl162,b163,hl167,hl171,b172,b173⟩:=hr142
 have:=hl162.len; have:n160 * 48 ≤ 140737488351232:=hl162.bnd; have:=hl162.le
 have:=hl167.len; have:n165 * 24 ≤ 140737488351232:=hl167.bnd; have:=hl167.le
 have:=hl171.len; have:n169 * 32 ≤ 140737488351232:=hl171.bnd; have:=hl171.le
 have hk_e139:=el_eval (fun o:GOut => o.F.Kind) 5 hx141 (by rw [hmm24,hmm5]; decide +kernel)
 have hk2_e139:e139.F.Kind = 5:=hk_e139
 refine st (v:=.pointer (some ⟨g136,(0 * 16),none⟩)) (ixo27 (.tmp rfl hv138) rfl (i:=0) .const (by omega) (by omega) (by omega)) ?_
 refine g_yes (yk 78 true rfl rfl hc135) ?_
 refine st (v:=.pointer (some ⟨g136,(0 * 16) + 1,none⟩)) (fa53_1 (.tmp rfl rfl)) ?_
 refine g_yes (yk 78 true rfl rfl hc135) ?_
 refine st (v:=.pointer (some ⟨g136,(0 * 16) + 1 + 0,none⟩)) (fa51_0 (.tmp rfl rfl)) ?_
 refine g_yes (yk 78 true rfl rfl hc135) ?_
 refine st (v:=.int .u8 ((e139.F.Kind:Nat):Int)) (ld5 (.tmp rfl rfl) ((hs112.rowAt 0 rfl hv138 (0 * 16) hsub143).cell 1 rfl)) ?_
 refine g_yes (yk 78 true rfl rfl hc135) ?_
 refine st (v:=.bool (decide ((((e139.F.Kind:Nat):Int):Int) = 5))) (x_eql (k:=.u8) (a:=((e139.F.Kind:Nat):Int)) (b:=5) (.tmp rfl rfl) .const) ?_
 refine st (v:=.bool (decide ((((e139.F.Kind:Nat):Int):Int) = 5))) (x_pick_t (.tmp rfl (cVb hc135)) (.tmp rfl rfl)) ?_
 refine st (v:=.bool (decide ((((e139.F.Kind:Nat):Int):Int) = 5))) (x_move (.tmp rfl rfl)) ?_
 have hc174:(decide ((((e139.F.Kind:Nat):Int):Int) = 5)) = true:=(decide_eq_true (by omega))
 have hp174:(((e139.F.Kind:Nat):Int):Int) = 5:=of_decide_eq_true hc174
 refine g_yes (yk 86 true rfl rfl hc174) ?_
 refine st (v:=.pointer (some ⟨mm108.g,0,none⟩)) (x_move (.tmp rfl ((congrArg (fun z => Value.pointer (some ⟨z,0,none⟩)) hmg23.symm).trans (congrArg (fun z => Value.pointer (some ⟨z,0,none⟩)) hmg110.symm)))) ?_
 refine g_yes (yk 86 true rfl rfl hc174) ?_
 have hs175:St H99 _ (MM.res 78 81 37 mm108 ++ (row 53 16 v101 (((MB.inn mm21.m (GFrame.mk 3 1 (GViewID.mk 1 0) 0 (GViewID.mk 0 0) (GViewID.mk 0 0) [(GState.mk (GViewID.mk 0 0) 0 [])] 0 [] [] 0 0) (GState.mk (GViewID.mk 0 0) 0 [])).2.1).length) cs104::row 53 16 v14 (((MB.tick mm3.m 3 (GState.mk (GViewID.mk 0 0) 0 [])).2.1).length) cs17::L)):=St.upL [row 53 16 v101 (((MB.inn mm21.m (GFrame.mk 3 1 (GViewID.mk 1 0) 0 (GViewID.mk 0 0) (GViewID.mk 0 0) [(GState.mk (GViewID.mk 0 0) 0 [])] 0 [] [] 0 0) (GState.mk (GViewID.mk 0 0) 0 [])).2.1).length) cs104,row 53 16 v14 (((MB.tick mm3.m 3 (GState.mk (GViewID.mk 0 0) 0 [])).2.1).length) cs17] hs112
 refine st_c cb15 .func (evs1 (.tmp rfl rfl)) (opn_mm hs175 (x:=mm108) mok109 ) ?_
 rintro e w176 ⟨rfl,hs177⟩
 refine ⟨_,rfl,?_⟩
 have hs178:St H99 _ (row 53 16 v101 (((MB.inn mm21.m (GFrame.mk 3 1 (GViewID.mk 1 0) 0 (GViewID.mk 0 0) (GViewID.mk 0 0) [(GState.mk (GViewID.mk 0 0) 0 [])] 0 [] [] 0 0) (GState.mk (GViewID.mk 0 0) 0 [])).2.1).length) cs104::row 53 16 v14 (((MB.tick mm3.m 3 (GState.mk (GViewID.mk 0 0) 0 [])).2.1).length) cs17::MM.res 78 81 37 mm108 ++ (L)):=St.downL [row 53 16 v101 (((MB.inn mm21.m (GFrame.mk 3 1 (GViewID.mk 1 0) 0 (GViewID.mk 0 0) (GViewID.mk 0 0) [(GState.mk (GViewID.mk 0 0) 0 [])] 0 [] [] 0 0) (GState.mk (GViewID.mk 0 0) 0 [])).2.1).length) cs104,row 53 16 v14 (((MB.tick mm3.m 3 (GState.mk (GViewID.mk 0 0) 0 [])).2.1).length) cs17] hs177
 refine st (v:=.bool mm108.m.opn) (x_pick_t (.tmp rfl (cVb hc174)) (.tmp rfl rfl)) ?_
 refine st (v:=.bool mm108.m.opn) (x_assign (.tmp rfl rfl)) ?_
 refine c_nil (n_then (c_ret (leave_ret (res_one (v:=.bool mm108.m.opn) rfl (.mk rfl rfl)) ?_)))
 have hyes:mm108.m.opn = true:=(by rw [hmm111,hmm24,hmm5]; decide +kernel)
 rw [hyes]
 exact ⟨rfl,((St.dropL [] hs178.drop.drop).weaken ((hle13.trans hle87).trans hle100))⟩
end Go.Proofs.YtcccaihjgoaehaaDoor

set_option linter.unusedVariables false
set_option linter.unusedSimpArgs false
namespace Go.Proofs.YtcccaihjgoaehaaDoor
open Go Go.FM Go.Proofs
attribute [local irreducible] wpList wpQuiet wpS Code.wp Calls
set_option maxHeartbeats 8000000 in
theorem post_spec {H:Hp} {w:World} {L:List Res} {x:GR} (hs:St H w (GR.res 67 53 63 39 78 81 37 x ++ (L))) (ok_x:GR.ok x H) (i:Int) (b_i:IB i) {A_l:Option Addr} {n_l c_l:Nat} (l:(List GOut)) (h_l:Sl kOut H A_l n_l c_l l) (v_io:Value) (io:Option GInstall) (h_io:InstAt H io v_io) (hi0:0 ≤ i) (hi:i.toNat < x.vs.length) (hbl:x.bag.length ≤ 200000) (hll:l.length ≤ 16) (hvl:∀ q ∈ x.vs,q.xs.length ≤ 2000000):Calls Tryd.prog 35 #[.pointer (some ⟨x.a,0,none⟩),.int .i64 i,.slice A_l n_l c_l,v_io] w (fun e w' => ∃ (H':Hp) (x':GR),H.le H'∧e = .returned (.tuple #[])∧GR.ok x' H'∧x'.a = x.a∧x'.n = x.n∧x'.g = (x.g.post i.toNat l io)∧St H' w' (GR.res 67 53 63 39 78 81 37 x' ++ (L))):=by
 have hs1:St H _ (obj x.a 67 [.int .i64 ((x.n:Nat):Int),.slice x.A x.ln x.lc,x.bv,x.vv]::row 53 16 x.bv x.bag.length x.bc::row 63 1 x.vv x.vs.length x.vc::memsR 78 81 37 x.ms ++ (vrsR 39 x.vs ++ (L))):=St.grpOpen [] hs
 obtain ⟨b_i1,b_i2⟩:=b_i
 have:=h_l.len; have:=h_l.le; have:n_l * 192 ≤ 140737488351232:=h_l.bnd
 refine enter (args:=[.pointer (some ⟨x.a,0,none⟩),.int .i64 i,.slice A_l n_l c_l,v_io]) (N:=38) Tryd.func35 rfl rfl rfl ?_
 refine c_seq (c_region (st (v:=.pointer (some ⟨x.a,0,none⟩)) (x_move (.tmp rfl rfl)) ?_))
 refine st (v:=.pointer (some ⟨x.a,0,none⟩)) (x_move (.tmp rfl rfl)) ?_
 refine st (v:=.pointer (some ⟨x.a,0,none⟩)) (x_nilCheck (.tmp rfl rfl)) ?_
 refine st (v:=.pointer (some ⟨x.a,0 + 2,none⟩)) (fa67_2 (.tmp rfl rfl)) ?_
 refine st (v:=x.bv) (ld27 (.tmp rfl rfl) (hs1.cell 0 rfl (0 + 2) rfl)) ?_
 refine st (v:=.slice A_l n_l c_l) (x_move (.tmp rfl rfl)) ?_
 have hs2:=hs1.p1
 refine st_m (m_appSl (d:=kOut) (ys:=l) Tryd.underlying27 inf53 rfl hs2 ok_x.bok ok_x.bhk (.tmp rfl rfl) (.tmp rfl rfl) h_l (by omega) (by decide)) ?_
 rintro v3 w4 ⟨cs5,ok6,hk7,hs8⟩
 have hn9:(x.bag ++ l).length = x.bag.length + n_l:=by rw [List.length_append,h_l.len]
 refine st (v:=.pointer (some ⟨x.a,0,none⟩)) (x_nilCheck (.tmp rfl rfl)) ?_
 refine st (v:=.pointer (some ⟨x.a,0 + 2,none⟩)) (fa67_2 (.tmp rfl rfl)) ?_
 obtain ⟨A10,c11,rfl,hc12⟩:=ok6.slice
 have hs13:=hs8.p1
 refine st_m0 (sto27 (cs':=[.int .i64 ((x.n:Nat):Int),.slice x.A x.ln x.lc,.slice A10 ((x.bag ++ l).length) c11,x.vv]) (i:=0 + 2) hs13 (v:=.slice A10 ((x.bag ++ l).length) c11) (.tmp rfl rfl) (.tmp rfl rfl) rfl (Nat.le_of_ble_eq_true rfl) one1 rfl) ?_
 rintro w14 hs16
 refine c_nil (n_then (c_seq (c_region (st (v:=v_io) (x_move (.tmp rfl rfl)) ?_))))
 rcases InstAt.cases h_io with ⟨hX20,rfl⟩ | ⟨yi17,gi18,ci19,hX20,rfl,hrd21,hrp22⟩
 refine st (v:=.bool false) (x_neqP Tryd.underlying28 (.tmp rfl rfl) .const rfl) ?_
 refine c_nil (n_then (c_cond_f (t:=false) (.tmp rfl rfl) rfl ?_))
 refine c_skip (leave_end (res_none rfl) ?_)
 have hs24:=hs16.p2
 have hs25:=hs24.p2
 have hs26:=hs25.p2
 have okg28:GR.ok (GR.mk x.n x.ms (x.bag ++ l) x.vs x.a x.A x.ln x.lc (.slice A10 ((x.bag ++ l).length) c11) cs5 x.vv x.vc) H:=⟨ok_x.mok,ok_x.l,ok6,hk7,ok_x.vok,ok_x.vhk⟩
 have hs27:St H _ (GR.res 67 53 63 39 78 81 37 (GR.mk x.n x.ms (x.bag ++ l) x.vs x.a x.A x.ln x.lc (.slice A10 ((x.bag ++ l).length) c11) cs5 x.vv x.vc) ++ (L)):=St.grpShut (x:=(GR.mk x.n x.ms (x.bag ++ l) x.vs x.a x.A x.ln x.lc (.slice A10 ((x.bag ++ l).length) c11) cs5 x.vv x.vc)) [] hs26
 have hs29:St H _ (GR.res 67 53 63 39 78 81 37 (GR.mk x.n x.ms (x.bag ++ l) x.vs x.a x.A x.ln x.lc (.slice A10 ((x.bag ++ l).length) c11) cs5 x.vv x.vc) ++ (L)):=St.downL [] hs27
 exact ⟨H,(GR.mk x.n x.ms (x.bag ++ l) x.vs x.a x.A x.ln x.lc (.slice A10 ((x.bag ++ l).length) c11) cs5 x.vv x.vc),(Hp.le.refl _),rfl,okg28,rfl,rfl,(post_none hX20),hs29⟩
 obtain ⟨A34,n35,c36,rfl,b30,⟨b31,b32⟩,b33,hl37⟩:=hrp22
 have:=hl37.len; have:n35 * 48 ≤ 140737488351232:=hl37.bnd; have:=hl37.le
 have hat23:∀ {w:World} {L:List Res},St H w L → At w ⟨gi18,0,none⟩ [.int .u64 ((yi17.View.ID.N:Nat):Int),.int .i64 yi17.View.ID.P,.int .u16 ((yi17.View.Set:Nat):Int),.slice A34 n35 c36]:=fun h => hrd21.hat h
 refine st (v:=.bool true) (x_neqP Tryd.underlying28 (.tmp rfl rfl) .const rfl) ?_
 refine c_nil (n_then (c_cond_t (t:=true) (.tmp rfl rfl) rfl ?_))
 refine u_region (L:=obj x.a 67 [.int .i64 ((x.n:Nat):Int),.slice x.A x.ln x.lc,.slice A10 ((x.bag ++ l).length) c11,x.vv]::row 53 16 (.slice A10 ((x.bag ++ l).length) c11) ((x.bag ++ l).length) cs5::row 63 1 x.vv x.vs.length x.vc::memsR 78 81 37 x.ms ++ (vrsR 39 x.vs ++ (L))) (L':=obj x.a 67 [.int .i64 ((x.n:Nat):Int),.slice x.A x.ln x.lc,.slice A10 ((x.bag ++ l).length) c11,x.vv]::row 53 16 (.slice A10 ((x.bag ++ l).length) c11) ((x.bag ++ l).length) cs5::row 63 1 x.vv x.vs.length x.vc::L) (Z:=[19]) (F:=[]) (Lw:=obj x.a 67 [.int .i64 ((x.n:Nat):Int),.slice x.A x.ln x.lc,.slice A10 ((x.bag ++ l).length) c11,x.vv]::row 53 16 (.slice A10 ((x.bag ++ l).length) c11) ((x.bag ++ l).length) cs5::L) (pl:=(.q 0 (.q 1 (.q 2 (.q 3 (.q 4 (.q 5 (.q 6 (.q 7 (.q 8 (.q 9 (.q 10 (.q 11 (.q 12 (.q 13 (.q 14 (.q 15 (.e 16 (.e 17 (.q 18 (.e 19 .done))))))))))))))))))))) mixed hs16 (fun u hu => (St.dropL [obj x.a 67 [.int .i64 ((x.n:Nat):Int),.slice x.A x.ln x.lc,.slice A10 ((x.bag ++ l).length) c11,x.vv],row 53 16 (.slice A10 ((x.bag ++ l).length) c11) ((x.bag ++ l).length) cs5,row 63 1 x.vv x.vs.length x.vc] (St.dropL [obj x.a 67 [.int .i64 ((x.n:Nat):Int),.slice x.A x.ln x.lc,.slice A10 ((x.bag ++ l).length) c11,x.vv],row 53 16 (.slice A10 ((x.bag ++ l).length) c11) ((x.bag ++ l).length) cs5,row 63 1 x.vv x.vs.length x.vc] hu))) (fun u hu => (hu.p2).drop) (by kernel_rfl) ?_
 intro w38 hs39
 refine u_st (k:=0) (v:=.pointer (some ⟨x.a,0,none⟩)) rfl rfl (fun w hs => (x_move (.tmp rfl rfl))) ?_
 refine u_st (k:=1) (v:=.pointer (some ⟨x.a,0,none⟩)) rfl rfl (fun w hs => (x_nilCheck (.tmp rfl rfl))) ?_
 refine u_st (k:=2) (v:=.pointer (some ⟨x.a,0 + 3,none⟩)) rfl rfl (fun w hs => (fa67_3 (.tmp rfl rfl))) ?_
 refine u_st (k:=3) (v:=x.vv) rfl rfl (fun w hs => (ld65 (.tmp rfl rfl) (hs.cell 0 rfl (0 + 3) rfl))) ?_
 refine u_st (k:=4) (v:=.int .i64 i) rfl rfl (fun w hs => (x_move (.tmp rfl rfl))) ?_
 refine u_st (k:=5) (v:=.pointer (some ⟨x.a,0,none⟩)) rfl rfl (fun w hs => (x_move (.tmp rfl rfl))) ?_
 refine u_st (k:=6) (v:=.pointer (some ⟨x.a,0,none⟩)) rfl rfl (fun w hs => (x_nilCheck (.tmp rfl rfl))) ?_
 refine u_st (k:=7) (v:=.pointer (some ⟨x.a,0 + 3,none⟩)) rfl rfl (fun w hs => (fa67_3 (.tmp rfl rfl))) ?_
 refine u_st (k:=8) (v:=x.vv) rfl rfl (fun w hs => (ld65 (.tmp rfl rfl) (hs.cell 0 rfl (0 + 3) rfl))) ?_
 refine u_st (k:=9) (v:=.int .i64 i) rfl rfl (fun w hs => (x_move (.tmp rfl rfl))) ?_
 obtain ⟨g40,c41,hv42⟩:=ok_x.vok.pos (by omega)
 obtain ⟨e43,cs44,hx45,hr46,hsub47⟩:=Kn.rows_get (i:=i.toNat) ok_x.vhk (by omega)
 obtain ⟨rfl,ok48,hk49⟩:=hr46
 have hvl_e43:=hvl e43 (List.mem_of_getElem? hx45)
 refine u_st (k:=10) (v:=.pointer (some ⟨g40,(i.toNat * 1),none⟩)) rfl rfl (fun w hs => (ixo65 (.tmp rfl hv42) rfl (i:=i) (.tmp rfl rfl) (by omega) (by omega) (by omega))) ?_
 refine u_st (k:=11) (v:=e43.v) rfl rfl (fun w hs => (ld63 (.tmp rfl rfl) ((hs.rowAt 2 rfl hv42 (i.toNat * 1) hsub47).cell 0 rfl))) ?_
 refine u_st (k:=12) (v:=.pointer (some ⟨gi18,0,none⟩)) rfl rfl (fun w hs => (x_move (.tmp rfl rfl))) ?_
 refine u_st (k:=13) (v:=.pointer (some ⟨gi18,0,none⟩)) rfl rfl (fun w hs => (x_nilCheck (.tmp rfl rfl))) ?_
 refine u_st (k:=14) (v:=.pointer (some ⟨gi18,0 + 0,none⟩)) rfl rfl (fun w hs => (fa42_0 (.tmp rfl rfl))) ?_
 refine u_st (k:=15) (v:=.agg #[.int .u64 ((yi17.View.ID.N:Nat):Int),.int .i64 yi17.View.ID.P,.int .u16 ((yi17.View.Set:Nat):Int)]) rfl rfl (fun w hs => (ld39 (cs:=[.int .u64 ((yi17.View.ID.N:Nat):Int),.int .i64 yi17.View.ID.P,.int .u16 ((yi17.View.Set:Nat):Int)]) (.tmp rfl rfl) ((hat23 hs).sub 0 rfl) rfl)) ?_
 refine u_eff (k:=16) rfl ?_
 refine st_m (m_lit (n:=1) (ps:=[(0,.agg #[.int .u64 ((yi17.View.ID.N:Nat):Int),.int .i64 yi17.View.ID.P,.int .u16 ((yi17.View.Set:Nat):Int)])]) (cs:=[.int .u64 ((yi17.View.ID.N:Nat):Int),.int .i64 yi17.View.ID.P,.int .u16 ((yi17.View.Set:Nat):Int)]) Tryd.underlying63 inf39 (.cons (.tmp rfl rfl) Evp.nil) (by decide) (by decide) rfl rfl hs39) ?_
 rintro _ w51 ⟨g50,rfl,hs53⟩
 refine u_on (S':=fun u => St H u (obj g50 39 (clView yi17.View)::obj x.a 67 [.int .i64 ((x.n:Nat):Int),.slice x.A x.ln x.lc,.slice A10 ((x.bag ++ l).length) c11,x.vv]::row 53 16 (.slice A10 ((x.bag ++ l).length) c11) ((x.bag ++ l).length) cs5::row 63 1 x.vv x.vs.length x.vc::L)) (fun u hu => hu.drop) (fun u hu => (hu.drop.p2).drop) (St.dropL [obj g50 39 (clView yi17.View),obj x.a 67 [.int .i64 ((x.n:Nat):Int),.slice x.A x.ln x.lc,.slice A10 ((x.bag ++ l).length) c11,x.vv],row 53 16 (.slice A10 ((x.bag ++ l).length) c11) ((x.bag ++ l).length) cs5,row 63 1 x.vv x.vs.length x.vc] (St.dropL [obj g50 39 (clView yi17.View),obj x.a 67 [.int .i64 ((x.n:Nat):Int),.slice x.A x.ln x.lc,.slice A10 ((x.bag ++ l).length) c11,x.vv],row 53 16 (.slice A10 ((x.bag ++ l).length) c11) ((x.bag ++ l).length) cs5,row 63 1 x.vv x.vs.length x.vc] hs53)) ?_
 refine u_eff (k:=17) rfl ?_
 have hs54:St H _ (row 39 3 e43.v e43.xs.length e43.c::obj g50 39 (clView yi17.View)::obj x.a 67 [.int .i64 ((x.n:Nat):Int),.slice x.A x.ln x.lc,.slice A10 ((x.bag ++ l).length) c11,x.vv]::row 53 16 (.slice A10 ((x.bag ++ l).length) c11) ((x.bag ++ l).length) cs5::row 63 1 x.vv x.vs.length x.vc::memsR 78 81 37 x.ms ++ (vrsR 39 (x.vs.eraseIdx i.toNat) ++ (L))):=St.vrOut (TV:=39) [obj g50 39 (clView yi17.View),obj x.a 67 [.int .i64 ((x.n:Nat):Int),.slice x.A x.ln x.lc,.slice A10 ((x.bag ++ l).length) c11,x.vv],row 53 16 (.slice A10 ((x.bag ++ l).length) c11) ((x.bag ++ l).length) cs5,row 63 1 x.vv x.vs.length x.vc] hs53 hx45
 have hr62:kView.rep H yi17.View [.int .u64 ((yi17.View.ID.N:Nat):Int),.int .i64 yi17.View.ID.P,.int .u16 ((yi17.View.Set:Nat):Int)]:=⟨rfl,b30,⟨b31,b32⟩,b33⟩
 refine st_m (m_appK (d:=kView) (ys:=[yi17.View]) (news:=[.int .u64 ((yi17.View.ID.N:Nat):Int),.int .i64 yi17.View.ID.P,.int .u16 ((yi17.View.Set:Nat):Int)]) Tryd.underlying63 inf39 rfl hs54 ok48 hk49 (.tmp rfl rfl) (.tmp rfl rfl) (Kn.rows_one hr62) rfl (hs54.at_ 1 rfl 0 rfl) (by have:([yi17.View]:List GView).length = 1:=rfl; omega) (by decide)) ?_
 rintro v55 w56 ⟨cs57,ok58,hk59,hs60⟩
 have hn61:(e43.xs ++ [yi17.View]).length = e43.xs.length + 1:=by simp
 refine u_on (S':=fun u => St H u (row 39 3 v55 ((e43.xs ++ [yi17.View]).length) cs57::obj g50 39 (clView yi17.View)::obj x.a 67 [.int .i64 ((x.n:Nat):Int),.slice x.A x.ln x.lc,.slice A10 ((x.bag ++ l).length) c11,x.vv]::row 53 16 (.slice A10 ((x.bag ++ l).length) c11) ((x.bag ++ l).length) cs5::row 63 1 x.vv x.vs.length x.vc::L)) (fun u hu => hu.drop) (fun u hu => (hu.drop.drop.p2).drop) (St.dropL [row 39 3 v55 ((e43.xs ++ [yi17.View]).length) cs57,obj g50 39 (clView yi17.View),obj x.a 67 [.int .i64 ((x.n:Nat):Int),.slice x.A x.ln x.lc,.slice A10 ((x.bag ++ l).length) c11,x.vv],row 53 16 (.slice A10 ((x.bag ++ l).length) c11) ((x.bag ++ l).length) cs5,row 63 1 x.vv x.vs.length x.vc] (St.dropL [row 39 3 v55 ((e43.xs ++ [yi17.View]).length) cs57,obj g50 39 (clView yi17.View),obj x.a 67 [.int .i64 ((x.n:Nat):Int),.slice x.A x.ln x.lc,.slice A10 ((x.bag ++ l).length) c11,x.vv],row 53 16 (.slice A10 ((x.bag ++ l).length) c11) ((x.bag ++ l).length) cs5,row 63 1 x.vv x.vs.length x.vc] hs60)) ?_
 obtain ⟨g63,c64,hv65⟩:=ok_x.vok.pos (by omega)
 refine u_st (k:=18) (v:=.pointer (some ⟨g63,(i.toNat * 1),none⟩)) rfl rfl (fun w hs => (ixo65 (.tmp rfl hv65) rfl (i:=i) (.tmp rfl rfl) (by omega) (by omega) (by omega))) ?_
 refine u_eff (k:=19) rfl ?_
 obtain ⟨A66,c67,rfl,hc68⟩:=ok58.slice
 have hs69:=hs60.p4
 have hl75:i.toNat + 1 ≤ x.vc.length:=by have h1:=(ok_x.vhk).1; have h2:kVR.sz = 1:=rfl; rw [h2] at h1; omega
 have hr74:kVR.rep H (VR.mk (.slice A66 ((e43.xs ++ [yi17.View]).length) c67) cs57 (e43.xs ++ [yi17.View])) [(.slice A66 ((e43.xs ++ [yi17.View]).length) c67)]:=⟨rfl,ok58,hk59⟩
 refine st_m0 (stor63 hs69 hv65 (i:=(i.toNat * 1)) (xs':=splice x.vc (i.toNat * 1) [(.slice A66 ((e43.xs ++ [yi17.View]).length) c67)]) (.tmp rfl rfl) (u:=.slice A66 ((e43.xs ++ [yi17.View]).length) c67) (.tmp rfl rfl) rfl (by omega) one1 rfl) ?_
 rintro w70 hs71
 have hk73:=Kn.rows_set (d:=kVR.toKn) ok_x.vhk (i:=i.toNat) (by omega) hr74
 have ok72:=ok_x.vok.splice (i:=i.toNat * 1) (vs:=[(.slice A66 ((e43.xs ++ [yi17.View]).length) c67)]) (by show i.toNat * 1 + 1 ≤ _; omega)
 have hn76:(x.vs.set i.toNat (VR.mk (.slice A66 ((e43.xs ++ [yi17.View]).length) c67) cs57 (e43.xs ++ [yi17.View]))).length = x.vs.length:=List.length_set
 have ok77:RowOk kVR.sz x.vv (x.vs.set i.toNat (VR.mk (.slice A66 ((e43.xs ++ [yi17.View]).length) c67) cs57 (e43.xs ++ [yi17.View]))).length (splice x.vc (i.toNat * 1) [(.slice A66 ((e43.xs ++ [yi17.View]).length) c67)]):=by rw [hn76]; exact ok72
 have hs78:St H w70 (row 63 1 x.vv ((x.vs.set i.toNat (VR.mk (.slice A66 ((e43.xs ++ [yi17.View]).length) c67) cs57 (e43.xs ++ [yi17.View]))).length) (splice x.vc (i.toNat * 1) [(.slice A66 ((e43.xs ++ [yi17.View]).length) c67)])::row 39 3 (.slice A66 ((e43.xs ++ [yi17.View]).length) c67) ((e43.xs ++ [yi17.View]).length) cs57::obj g50 39 (clView yi17.View)::obj x.a 67 [.int .i64 ((x.n:Nat):Int),.slice x.A x.ln x.lc,.slice A10 ((x.bag ++ l).length) c11,x.vv]::row 53 16 (.slice A10 ((x.bag ++ l).length) c11) ((x.bag ++ l).length) cs5::memsR 78 81 37 x.ms ++ (vrsR 39 (x.vs.eraseIdx i.toNat) ++ (L))):=by rw [hn76]; exact hs71
 have hs79:=hs78.p1
 have hs80:St H _ (row 63 1 x.vv ((x.vs.set i.toNat (VR.mk (.slice A66 ((e43.xs ++ [yi17.View]).length) c67) cs57 (e43.xs ++ [yi17.View]))).length) (splice x.vc (i.toNat * 1) [(.slice A66 ((e43.xs ++ [yi17.View]).length) c67)])::obj g50 39 (clView yi17.View)::obj x.a 67 [.int .i64 ((x.n:Nat):Int),.slice x.A x.ln x.lc,.slice A10 ((x.bag ++ l).length) c11,x.vv]::row 53 16 (.slice A10 ((x.bag ++ l).length) c11) ((x.bag ++ l).length) cs5::memsR 78 81 37 x.ms ++ (vrsR 39 (x.vs.set i.toNat (VR.mk (.slice A66 ((e43.xs ++ [yi17.View]).length) c67) cs57 (e43.xs ++ [yi17.View]))) ++ (L))):=St.vrIn (TV:=39) (q:=(VR.mk (.slice A66 ((e43.xs ++ [yi17.View]).length) c67) cs57 (e43.xs ++ [yi17.View]))) [row 63 1 x.vv ((x.vs.set i.toNat (VR.mk (.slice A66 ((e43.xs ++ [yi17.View]).length) c67) cs57 (e43.xs ++ [yi17.View]))).length) (splice x.vc (i.toNat * 1) [(.slice A66 ((e43.xs ++ [yi17.View]).length) c67)]),obj g50 39 (clView yi17.View),obj x.a 67 [.int .i64 ((x.n:Nat):Int),.slice x.A x.ln x.lc,.slice A10 ((x.bag ++ l).length) c11,x.vv],row 53 16 (.slice A10 ((x.bag ++ l).length) c11) ((x.bag ++ l).length) cs5] hs79 hx45
 refine u_new (S':=fun u => St H u (row 63 1 x.vv ((x.vs.set i.toNat (VR.mk (.slice A66 ((e43.xs ++ [yi17.View]).length) c67) cs57 (e43.xs ++ [yi17.View]))).length) (splice x.vc (i.toNat * 1) [(.slice A66 ((e43.xs ++ [yi17.View]).length) c67)])::obj g50 39 (clView yi17.View)::obj x.a 67 [.int .i64 ((x.n:Nat):Int),.slice x.A x.ln x.lc,.slice A10 ((x.bag ++ l).length) c11,x.vv]::row 53 16 (.slice A10 ((x.bag ++ l).length) c11) ((x.bag ++ l).length) cs5::L)) rfl (fun u hu => hu.drop.drop) (St.dropL [row 63 1 x.vv ((x.vs.set i.toNat (VR.mk (.slice A66 ((e43.xs ++ [yi17.View]).length) c67) cs57 (e43.xs ++ [yi17.View]))).length) (splice x.vc (i.toNat * 1) [(.slice A66 ((e43.xs ++ [yi17.View]).length) c67)]),obj g50 39 (clView yi17.View),obj x.a 67 [.int .i64 ((x.n:Nat):Int),.slice x.A x.ln x.lc,.slice A10 ((x.bag ++ l).length) c11,x.vv],row 53 16 (.slice A10 ((x.bag ++ l).length) c11) ((x.bag ++ l).length) cs5] (St.dropL [row 63 1 x.vv ((x.vs.set i.toNat (VR.mk (.slice A66 ((e43.xs ++ [yi17.View]).length) c67) cs57 (e43.xs ++ [yi17.View]))).length) (splice x.vc (i.toNat * 1) [(.slice A66 ((e43.xs ++ [yi17.View]).length) c67)]),obj g50 39 (clView yi17.View),obj x.a 67 [.int .i64 ((x.n:Nat):Int),.slice x.A x.ln x.lc,.slice A10 ((x.bag ++ l).length) c11,x.vv],row 53 16 (.slice A10 ((x.bag ++ l).length) c11) ((x.bag ++ l).length) cs5] hs80)) ?_
 refine u_nil ?_
 refine leave_end (res_none rfl) ?_
 have hs81:=hs80.p3
 have hs82:=hs81.p3
 have okg84:GR.ok (GR.mk x.n x.ms (x.bag ++ l) (x.vs.set i.toNat (VR.mk (.slice A66 ((e43.xs ++ [yi17.View]).length) c67) cs57 (e43.xs ++ [yi17.View]))) x.a x.A x.ln x.lc (.slice A10 ((x.bag ++ l).length) c11) cs5 x.vv (splice x.vc (i.toNat * 1) [(.slice A66 ((e43.xs ++ [yi17.View]).length) c67)])) H:=⟨ok_x.mok,ok_x.l,ok6,hk7,ok77,hk73⟩
 have hs83:St H _ (GR.res 67 53 63 39 78 81 37 (GR.mk x.n x.ms (x.bag ++ l) (x.vs.set i.toNat (VR.mk (.slice A66 ((e43.xs ++ [yi17.View]).length) c67) cs57 (e43.xs ++ [yi17.View]))) x.a x.A x.ln x.lc (.slice A10 ((x.bag ++ l).length) c11) cs5 x.vv (splice x.vc (i.toNat * 1) [(.slice A66 ((e43.xs ++ [yi17.View]).length) c67)])) ++ (obj g50 39 (clView yi17.View)::L)):=St.grpShut (x:=(GR.mk x.n x.ms (x.bag ++ l) (x.vs.set i.toNat (VR.mk (.slice A66 ((e43.xs ++ [yi17.View]).length) c67) cs57 (e43.xs ++ [yi17.View]))) x.a x.A x.ln x.lc (.slice A10 ((x.bag ++ l).length) c11) cs5 x.vv (splice x.vc (i.toNat * 1) [(.slice A66 ((e43.xs ++ [yi17.View]).length) c67)]))) [obj g50 39 (clView yi17.View)] hs82
 have hs85:St H _ (obj g50 39 (clView yi17.View)::GR.res 67 53 63 39 78 81 37 (GR.mk x.n x.ms (x.bag ++ l) (x.vs.set i.toNat (VR.mk (.slice A66 ((e43.xs ++ [yi17.View]).length) c67) cs57 (e43.xs ++ [yi17.View]))) x.a x.A x.ln x.lc (.slice A10 ((x.bag ++ l).length) c11) cs5 x.vv (splice x.vc (i.toNat * 1) [(.slice A66 ((e43.xs ++ [yi17.View]).length) c67)])) ++ (L)):=St.downL [obj g50 39 (clView yi17.View)] hs83
 exact ⟨H,(GR.mk x.n x.ms (x.bag ++ l) (x.vs.set i.toNat (VR.mk (.slice A66 ((e43.xs ++ [yi17.View]).length) c67) cs57 (e43.xs ++ [yi17.View]))) x.a x.A x.ln x.lc (.slice A10 ((x.bag ++ l).length) c11) cs5 x.vv (splice x.vc (i.toNat * 1) [(.slice A66 ((e43.xs ++ [yi17.View]).length) c67)])),(Hp.le.refl _),rfl,okg84,rfl,rfl,(post_some hX20 hx45),hs85.drop⟩
end Go.Proofs.YtcccaihjgoaehaaDoor
