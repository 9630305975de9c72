/- Steps of the proofs over the functions of this seat, printed by a program (gen.py) and checked by Lean. -/
import Derived.Test.YtcccaihjgoaehaaDoorW01
import Derived.Test.YtcccaihjgoaehaaDoorW00
import Derived.Test.YtcccaihjgoaehaaDoorW03
import Derived.Test.YtcccaihjgoaehaaDoorW09
set_option linter.unusedVariables false
set_option linter.unusedSimpArgs false
namespace Go.Proofs.YtcccaihjgoaehaaDoor
open Go Go.FM Go.Proofs
attribute [local irreducible] wpList wpQuiet wpS Code.wp Calls
theorem prom_mm {H:Hp} {w:World} {L:List Res} {x:MM} (hs:St H w (MM.res 78 81 37 x ++ L)) (ok:x.ok H):Calls Tryd.prog 19 #[.pointer (some ⟨x.g,0,none⟩)] w (fun e w' => ∃ (cs0:List Value),e = .returned (.agg cs0.toArray)∧kViewID.rep H x.m.prom cs0∧St H w' (MM.res 78 81 37 x ++ L)):=by
  obtain ⟨⟨n,self,cur,prom,high,prop,jl,os⟩,g,gp,A,jn,jc,sv,sc⟩:=x
  cases prop with
  | none => exact prom_X (m_prop:=none) hs ok.b
  | some p => exact prom_X (m_prop:=some p) hs ok.b
theorem cur_mm {H:Hp} {w:World} {L:List Res} {x:MM} (hs:St H w (MM.res 78 81 37 x ++ L)) (ok:x.ok H):Calls Tryd.prog 14 #[.pointer (some ⟨x.g,0,none⟩)] w (fun e w' => ∃ (cs0:List Value),e = .returned (.agg cs0.toArray)∧kView.rep H x.m.cur cs0∧St H w' (MM.res 78 81 37 x ++ L)):=by
  obtain ⟨⟨n,self,cur,prom,high,prop,jl,os⟩,g,gp,A,jn,jc,sv,sc⟩:=x
  cases prop with
  | none => exact cur_X (m_prop:=none) hs ok.b
  | some p => exact cur_X (m_prop:=some p) hs ok.b
theorem opn_mm {H:Hp} {w:World} {L:List Res} {x:MM} (hs:St H w (MM.res 78 81 37 x ++ L)) (ok:x.ok H):Calls Tryd.prog 15 #[.pointer (some ⟨x.g,0,none⟩)] w (fun e w' => e = .returned (.bool x.m.opn)∧St H w' (MM.res 78 81 37 x ++ L)):=by
  obtain ⟨⟨n,self,cur,prom,high,prop,jl,os⟩,g,gp,A,jn,jc,sv,sc⟩:=x
  cases prop with
  | none => exact opn_X (m_prop:=none) hs ok.b
  | some p => exact opn_X (m_prop:=some p) hs ok.b
theorem tick_mm {H:Hp} {w:World} {L:List Res} {x:MM} (hs:St H w (MM.res 78 81 37 x ++ L)) (ok:x.ok H) (est:Nat) (b_est:est < 65536) (sx:GState) {k_sx:List Value} (h_sx:kState.rep H sx k_sx) (hfl:0 ≤ sx.Floor∧sx.Floor ≤ 1073741824) (htab:Tab H):Calls Tryd.prog 12 #[.pointer (some ⟨x.g,0,none⟩),.int .u16 ((est:Nat):Int),.agg k_sx.toArray] w (fun e w' => ∃ (H':Hp) (v0:Value) (cs0:List Value) (iv1:Value) (x':MM),H.le H'∧e = .returned (.tuple #[v0,iv1])∧RowOk kOut.sz v0 ((MB.tick x.m est sx).2.1).length cs0∧kOut.toKn.rows H' ((MB.tick x.m est sx).2.1) cs0∧InstAt H' ((MB.tick x.m est sx).2.2) iv1∧x'.ok H'∧x'.g = x.g∧x'.m = (MB.tick x.m est sx).1∧St H' w' (row 53 kOut.sz v0 ((MB.tick x.m est sx).2.1).length cs0::(MM.res 78 81 37 x' ++ L))):=by
  obtain ⟨⟨n,self,cur,prom,high,prop,jl,os⟩,g,gp,A,jn,jc,sv,sc⟩:=x
  cases prop with
  | none =>
    refine Calls.mono (tick_N hs ok.b est b_est sx h_sx hfl htab) ?_
    rintro e w' ⟨H',v0,cs0,iv,m',gp',A',jn',jc',sv',sc',hle,rfl,h1,h2,h3,h4,h5,h6⟩
    exact ⟨H',v0,cs0,iv,⟨m',g,gp',A',jn',jc',sv',sc'⟩,hle,rfl,h1,h2,h3,h4,rfl,h5,h6⟩
  | some p =>
    refine Calls.mono (tick_S hs ok.b (ok.prop p rfl) est b_est sx h_sx hfl htab) ?_
    rintro e w' ⟨H',v0,cs0,iv,m',gp',A',jn',jc',sv',sc',hle,rfl,h1,h2,h3,h4,h5,h6⟩
    exact ⟨H',v0,cs0,iv,⟨m',g,gp',A',jn',jc',sv',sc'⟩,hle,rfl,h1,h2,h3,h4,rfl,h5,h6⟩
theorem in_mm {H:Hp} {w:World} {L:List Res} {x:MM} (hs:St H w (MM.res 78 81 37 x ++ L)) (ok:x.ok H) (f:GFrame) {k_f:List Value} (h_f:kFrame.rep H f k_f) (sx:GState) {k_sx:List Value} (h_sx:kState.rep H sx k_sx) (hpr:∀ p,x.m.prop = some p → p.states.length ≤ 900000∧(∀ s ∈ p.states,0 ≤ s.Floor∧s.Floor ≤ 1073741824)∧∀ s ∈ f.States,0 ≤ s.Floor∧s.Floor ≤ 1073741824) (htab:Tab H):Calls Tryd.prog 17 #[.pointer (some ⟨x.g,0,none⟩),.agg k_f.toArray,.agg k_sx.toArray] w (fun e w' => ∃ (H':Hp) (v0:Value) (cs0:List Value) (iv1:Value) (x':MM),H.le H'∧e = .returned (.tuple #[v0,iv1,.int .i64 (MB.inn x.m f sx).2.2.2])∧RowOk kOut.sz v0 ((MB.inn x.m f sx).2.1).length cs0∧kOut.toKn.rows H' ((MB.inn x.m f sx).2.1) cs0∧InstAt H' ((MB.inn x.m f sx).2.2.1) iv1∧x'.ok H'∧x'.g = x.g∧x'.m = (MB.inn x.m f sx).1∧St H' w' (row 53 kOut.sz v0 ((MB.inn x.m f sx).2.1).length cs0::(MM.res 78 81 37 x' ++ L))):=by
  obtain ⟨⟨n,self,cur,prom,high,prop,jl,os⟩,g,gp,A,jn,jc,sv,sc⟩:=x
  cases prop with
  | none =>
    refine Calls.mono (in_N hs ok.b f h_f sx h_sx htab) ?_
    rintro e w' ⟨H',v0,cs0,iv,m',gp',A',jn',jc',sv',sc',hle,rfl,h1,h2,h3,h4,h5,h6⟩
    exact ⟨H',v0,cs0,iv,⟨m',g,gp',A',jn',jc',sv',sc'⟩,hle,rfl,h1,h2,h3,h4,rfl,h5,h6⟩
  | some p =>
    obtain ⟨q1,q2,q3⟩:=hpr p rfl
    refine Calls.mono (in_S hs ok.b (ok.prop p rfl) f h_f sx h_sx q1 q2 q3 htab) ?_
    rintro e w' ⟨H',v0,cs0,iv,m',gp',A',jn',jc',sv',sc',hle,rfl,h1,h2,h3,h4,h5,h6⟩
    exact ⟨H',v0,cs0,iv,⟨m',g,gp',A',jn',jc',sv',sc'⟩,hle,rfl,h1,h2,h3,h4,rfl,h5,h6⟩
end Go.Proofs.YtcccaihjgoaehaaDoor

set_option linter.unusedVariables false
set_option linter.unusedSimpArgs false
set_option maxRecDepth 100000
namespace Go.Proofs.YtcccaihjgoaehaaDoor
open Go Go.FM Go.Proofs
attribute [local irreducible] wpList wpQuiet wpS Code.wp Calls
set_option maxHeartbeats 8000000 in
theorem new_mm {H:Hp} {w:World} {L:List Res} (hs:St H w (L)) (n:Nat) (z:Nat) (h1:1 ≤ n) (h2:n ≤ 16) (h3:z < n):Calls Tryd.prog 11 #[.int .i64 ((n:Nat):Int),.int .i64 ((z:Nat):Int)] w (fun e w' => ∃ (x0:MM),e = .returned (.tuple #[.pointer (some ⟨x0.g,0,none⟩),.int .i64 0])∧MM.ok x0 H∧x0.m = (MB.new n z)∧St H w' (MM.res 78 81 37 x0 ++ (L))):=by
 refine enter (args:=[.int .i64 ((n:Nat):Int),.int .i64 ((z:Nat):Int)]) (N:=25) Tryd.func11 rfl rfl rfl ?_
 refine c_seq (c_region (st (v:=.pointer none) (x_assign .const) ?_))
 refine st (v:=.int .i64 0) (x_assign .const) ?_
 refine c_nil (n_then (c_seq (c_seq (c_region (st (v:=.int .i64 ((n:Nat):Int)) (x_move (.tmp rfl rfl)) ?_)))))
 refine st (v:=.bool (decide ((((n:Nat):Int):Int) < 1))) (x_lss (k:=.i64) (a:=((n:Nat):Int)) (b:=1) (.tmp rfl rfl) .const) ?_
 refine st (v:=.bool (decide ((((n:Nat):Int):Int) < 1))) (x_move (.tmp rfl rfl)) ?_
 have hc1:(decide ((((n:Nat):Int):Int) < 1)) = false:=decide_eq_false (by omega)
 refine g_yes (yk 8 false rfl rfl hc1) ?_
 refine st (v:=.int .i64 ((n:Nat):Int)) (x_move (.tmp rfl rfl)) ?_
 refine g_yes (yk 8 false rfl rfl hc1) ?_
 refine st (v:=.bool (decide ((16:Int) < ((n:Nat):Int)))) (x_gtr (k:=.i64) (a:=((n:Nat):Int)) (b:=16) (.tmp rfl rfl) .const) ?_
 refine st (v:=.bool (decide ((16:Int) < ((n:Nat):Int)))) (x_pick_f (.tmp rfl (cVb hc1)) (.tmp rfl rfl)) ?_
 refine st (v:=.bool (decide ((16:Int) < ((n:Nat):Int)))) (x_move (.tmp rfl rfl)) ?_
 have hc2:(decide ((16:Int) < ((n:Nat):Int))) = false:=decide_eq_false (by omega)
 refine g_yes (yk 12 false rfl rfl hc2) ?_
 refine st (v:=.int .i64 ((z:Nat):Int)) (x_move (.tmp rfl rfl)) ?_
 refine g_yes (yk 12 false rfl rfl hc2) ?_
 refine st (v:=.bool (decide ((((z:Nat):Int):Int) < 0))) (x_lss (k:=.i64) (a:=((z:Nat):Int)) (b:=0) (.tmp rfl rfl) .const) ?_
 refine st (v:=.bool (decide ((((z:Nat):Int):Int) < 0))) (x_pick_f (.tmp rfl (cVb hc2)) (.tmp rfl rfl)) ?_
 refine st (v:=.bool (decide ((((z:Nat):Int):Int) < 0))) (x_move (.tmp rfl rfl)) ?_
 have hc3:(decide ((((z:Nat):Int):Int) < 0)) = false:=decide_eq_false (by omega)
 refine g_yes (yk 16 false rfl rfl hc3) ?_
 refine st (v:=.int .i64 ((z:Nat):Int)) (x_move (.tmp rfl rfl)) ?_
 refine g_yes (yk 16 false rfl rfl hc3) ?_
 refine st (v:=.int .i64 ((n:Nat):Int)) (x_move (.tmp rfl rfl)) ?_
 refine g_yes (yk 16 false rfl rfl hc3) ?_
 refine st (v:=.bool (decide ((((n:Nat):Int):Int) ≤ ((z:Nat):Int)))) (x_geq (k:=.i64) (a:=((z:Nat):Int)) (b:=((n:Nat):Int)) (.tmp rfl rfl) (.tmp rfl rfl)) ?_
 refine st (v:=.bool (decide ((((n:Nat):Int):Int) ≤ ((z:Nat):Int)))) (x_pick_f (.tmp rfl (cVb hc3)) (.tmp rfl rfl)) ?_
 refine c_nil (n_then ?_)
 have hc4:(decide ((((n:Nat):Int):Int) ≤ ((z:Nat):Int))) = false:=decide_eq_false (by omega)
 refine c_cond_f (t:=false) (.tmp rfl (cVb hc4)) rfl ?_
 refine c_skip (n_then (c_seq (c_region (st (v:=.int .i64 ((n:Nat):Int)) (x_move (.tmp rfl rfl)) ?_))))
 refine st (v:=.int .i64 ((z:Nat):Int)) (x_move (.tmp rfl rfl)) ?_
 refine st (v:=.agg #[.int .i64 ((n:Nat):Int),.int .i64 ((z:Nat):Int),.int .u64 0,.int .i64 0,.int .u16 0,.int .u64 0,.int .i64 0,.int .u64 0,.pointer none,.slice none 0 0,.int .u8 0,.int .i64 0,.int .u64 0,.int .i64 0,.int .u16 0,.int .u64 0,.int .i64 0,.int .u64 0,.int .i64 0,.slice none 0 0,.int .u64 0,.slice none 0 0,.slice none 0 0,.int .u64 0,.int .u64 0,.int .u8 0,.int .i64 0,.int .u64 0,.int .i64 0,.int .u16 0,.int .u64 0,.int .i64 0,.int .u64 0,.int .i64 0,.slice none 0 0,.int .u64 0,.slice none 0 0,.slice none 0 0,.int .u64 0,.int .u64 0,.int .u8 0,.int .i64 0,.int .u64 0,.int .i64 0,.int .u16 0,.int .u64 0,.int .i64 0,.int .u64 0,.int .i64 0,.slice none 0 0,.int .u64 0,.slice none 0 0,.slice none 0 0,.int .u64 0,.int .u64 0,.int .u8 0,.int .i64 0,.int .u64 0,.int .i64 0,.int .u16 0,.int .u64 0,.int .i64 0,.int .u64 0,.int .i64 0,.slice none 0 0,.int .u64 0,.slice none 0 0,.slice none 0 0,.int .u64 0,.int .u64 0,.int .u8 0,.int .i64 0,.int .u64 0,.int .i64 0,.int .u16 0,.int .u64 0,.int .i64 0,.int .u64 0,.int .i64 0,.slice none 0 0,.int .u64 0,.slice none 0 0,.slice none 0 0,.int .u64 0,.int .u64 0,.int .u8 0,.int .i64 0,.int .u64 0,.int .i64 0,.int .u16 0,.int .u64 0,.int .i64 0,.int .u64 0,.int .i64 0,.slice none 0 0,.int .u64 0,.slice none 0 0,.slice none 0 0,.int .u64 0,.int .u64 0,.int .u8 0,.int .i64 0,.int .u64 0,.int .i64 0,.int .u16 0,.int .u64 0,.int .i64 0,.int .u64 0,.int .i64 0,.slice none 0 0,.int .u64 0,.slice none 0 0,.slice none 0 0,.int .u64 0,.int .u64 0,.int .u8 0,.int .i64 0,.int .u64 0,.int .i64 0,.int .u16 0,.int .u64 0,.int .i64 0,.int .u64 0,.int .i64 0,.slice none 0 0,.int .u64 0,.slice none 0 0,.slice none 0 0,.int .u64 0,.int .u64 0,.int .u8 0,.int .i64 0,.int .u64 0,.int .i64 0,.int .u16 0,.int .u64 0,.int .i64 0,.int .u64 0,.int .i64 0,.slice none 0 0,.int .u64 0,.slice none 0 0,.slice none 0 0,.int .u64 0,.int .u64 0,.int .u8 0,.int .i64 0,.int .u64 0,.int .i64 0,.int .u16 0,.int .u64 0,.int .i64 0,.int .u64 0,.int .i64 0,.slice none 0 0,.int .u64 0,.slice none 0 0,.slice none 0 0,.int .u64 0,.int .u64 0,.int .u8 0,.int .i64 0,.int .u64 0,.int .i64 0,.int .u16 0,.int .u64 0,.int .i64 0,.int .u64 0,.int .i64 0,.slice none 0 0,.int .u64 0,.slice none 0 0,.slice none 0 0,.int .u64 0,.int .u64 0,.int .u8 0,.int .i64 0,.int .u64 0,.int .i64 0,.int .u16 0,.int .u64 0,.int .i64 0,.int .u64 0,.int .i64 0,.slice none 0 0,.int .u64 0,.slice none 0 0,.slice none 0 0,.int .u64 0,.int .u64 0,.int .u8 0,.int .i64 0,.int .u64 0,.int .i64 0,.int .u16 0,.int .u64 0,.int .i64 0,.int .u64 0,.int .i64 0,.slice none 0 0,.int .u64 0,.slice none 0 0,.slice none 0 0,.int .u64 0,.int .u64 0,.int .u8 0,.int .i64 0,.int .u64 0,.int .i64 0,.int .u16 0,.int .u64 0,.int .i64 0,.int .u64 0,.int .i64 0,.slice none 0 0,.int .u64 0,.slice none 0 0,.slice none 0 0,.int .u64 0,.int .u64 0,.int .u8 0,.int .i64 0,.int .u64 0,.int .i64 0,.int .u16 0,.int .u64 0,.int .i64 0,.int .u64 0,.int .i64 0,.slice none 0 0,.int .u64 0,.slice none 0 0,.slice none 0 0,.int .u64 0,.int .u64 0,.int .u8 0,.int .i64 0,.int .u64 0,.int .i64 0,.int .u16 0,.int .u64 0,.int .i64 0,.int .u64 0,.int .i64 0,.slice none 0 0,.int .u64 0,.slice none 0 0,.slice none 0 0,.int .u64 0,.int .u64 0]) (bl78 (ps:=[(0,.int .i64 ((n:Nat):Int)),(1,.int .i64 ((z:Nat):Int))]) (.cons (.tmp rfl rfl) (.cons (.tmp rfl rfl) Evp.nil)) rfl) ?_
 refine st_m (m_box (cs:=[.int .i64 ((n:Nat):Int),.int .i64 ((z:Nat):Int),.int .u64 0,.int .i64 0,.int .u16 0,.int .u64 0,.int .i64 0,.int .u64 0,.pointer none,.slice none 0 0,.int .u8 0,.int .i64 0,.int .u64 0,.int .i64 0,.int .u16 0,.int .u64 0,.int .i64 0,.int .u64 0,.int .i64 0,.slice none 0 0,.int .u64 0,.slice none 0 0,.slice none 0 0,.int .u64 0,.int .u64 0,.int .u8 0,.int .i64 0,.int .u64 0,.int .i64 0,.int .u16 0,.int .u64 0,.int .i64 0,.int .u64 0,.int .i64 0,.slice none 0 0,.int .u64 0,.slice none 0 0,.slice none 0 0,.int .u64 0,.int .u64 0,.int .u8 0,.int .i64 0,.int .u64 0,.int .i64 0,.int .u16 0,.int .u64 0,.int .i64 0,.int .u64 0,.int .i64 0,.slice none 0 0,.int .u64 0,.slice none 0 0,.slice none 0 0,.int .u64 0,.int .u64 0,.int .u8 0,.int .i64 0,.int .u64 0,.int .i64 0,.int .u16 0,.int .u64 0,.int .i64 0,.int .u64 0,.int .i64 0,.slice none 0 0,.int .u64 0,.slice none 0 0,.slice none 0 0,.int .u64 0,.int .u64 0,.int .u8 0,.int .i64 0,.int .u64 0,.int .i64 0,.int .u16 0,.int .u64 0,.int .i64 0,.int .u64 0,.int .i64 0,.slice none 0 0,.int .u64 0,.slice none 0 0,.slice none 0 0,.int .u64 0,.int .u64 0,.int .u8 0,.int .i64 0,.int .u64 0,.int .i64 0,.int .u16 0,.int .u64 0,.int .i64 0,.int .u64 0,.int .i64 0,.slice none 0 0,.int .u64 0,.slice none 0 0,.slice none 0 0,.int .u64 0,.int .u64 0,.int .u8 0,.int .i64 0,.int .u64 0,.int .i64 0,.int .u16 0,.int .u64 0,.int .i64 0,.int .u64 0,.int .i64 0,.slice none 0 0,.int .u64 0,.slice none 0 0,.slice none 0 0,.int .u64 0,.int .u64 0,.int .u8 0,.int .i64 0,.int .u64 0,.int .i64 0,.int .u16 0,.int .u64 0,.int .i64 0,.int .u64 0,.int .i64 0,.slice none 0 0,.int .u64 0,.slice none 0 0,.slice none 0 0,.int .u64 0,.int .u64 0,.int .u8 0,.int .i64 0,.int .u64 0,.int .i64 0,.int .u16 0,.int .u64 0,.int .i64 0,.int .u64 0,.int .i64 0,.slice none 0 0,.int .u64 0,.slice none 0 0,.slice none 0 0,.int .u64 0,.int .u64 0,.int .u8 0,.int .i64 0,.int .u64 0,.int .i64 0,.int .u16 0,.int .u64 0,.int .i64 0,.int .u64 0,.int .i64 0,.slice none 0 0,.int .u64 0,.slice none 0 0,.slice none 0 0,.int .u64 0,.int .u64 0,.int .u8 0,.int .i64 0,.int .u64 0,.int .i64 0,.int .u16 0,.int .u64 0,.int .i64 0,.int .u64 0,.int .i64 0,.slice none 0 0,.int .u64 0,.slice none 0 0,.slice none 0 0,.int .u64 0,.int .u64 0,.int .u8 0,.int .i64 0,.int .u64 0,.int .i64 0,.int .u16 0,.int .u64 0,.int .i64 0,.int .u64 0,.int .i64 0,.slice none 0 0,.int .u64 0,.slice none 0 0,.slice none 0 0,.int .u64 0,.int .u64 0,.int .u8 0,.int .i64 0,.int .u64 0,.int .i64 0,.int .u16 0,.int .u64 0,.int .i64 0,.int .u64 0,.int .i64 0,.slice none 0 0,.int .u64 0,.slice none 0 0,.slice none 0 0,.int .u64 0,.int .u64 0,.int .u8 0,.int .i64 0,.int .u64 0,.int .i64 0,.int .u16 0,.int .u64 0,.int .i64 0,.int .u64 0,.int .i64 0,.slice none 0 0,.int .u64 0,.slice none 0 0,.slice none 0 0,.int .u64 0,.int .u64 0,.int .u8 0,.int .i64 0,.int .u64 0,.int .i64 0,.int .u16 0,.int .u64 0,.int .i64 0,.int .u64 0,.int .i64 0,.slice none 0 0,.int .u64 0,.slice none 0 0,.slice none 0 0,.int .u64 0,.int .u64 0,.int .u8 0,.int .i64 0,.int .u64 0,.int .i64 0,.int .u16 0,.int .u64 0,.int .i64 0,.int .u64 0,.int .i64 0,.slice none 0 0,.int .u64 0,.slice none 0 0,.slice none 0 0,.int .u64 0,.int .u64 0]) hs (v:=.agg #[.int .i64 ((n:Nat):Int),.int .i64 ((z:Nat):Int),.int .u64 0,.int .i64 0,.int .u16 0,.int .u64 0,.int .i64 0,.int .u64 0,.pointer none,.slice none 0 0,.int .u8 0,.int .i64 0,.int .u64 0,.int .i64 0,.int .u16 0,.int .u64 0,.int .i64 0,.int .u64 0,.int .i64 0,.slice none 0 0,.int .u64 0,.slice none 0 0,.slice none 0 0,.int .u64 0,.int .u64 0,.int .u8 0,.int .i64 0,.int .u64 0,.int .i64 0,.int .u16 0,.int .u64 0,.int .i64 0,.int .u64 0,.int .i64 0,.slice none 0 0,.int .u64 0,.slice none 0 0,.slice none 0 0,.int .u64 0,.int .u64 0,.int .u8 0,.int .i64 0,.int .u64 0,.int .i64 0,.int .u16 0,.int .u64 0,.int .i64 0,.int .u64 0,.int .i64 0,.slice none 0 0,.int .u64 0,.slice none 0 0,.slice none 0 0,.int .u64 0,.int .u64 0,.int .u8 0,.int .i64 0,.int .u64 0,.int .i64 0,.int .u16 0,.int .u64 0,.int .i64 0,.int .u64 0,.int .i64 0,.slice none 0 0,.int .u64 0,.slice none 0 0,.slice none 0 0,.int .u64 0,.int .u64 0,.int .u8 0,.int .i64 0,.int .u64 0,.int .i64 0,.int .u16 0,.int .u64 0,.int .i64 0,.int .u64 0,.int .i64 0,.slice none 0 0,.int .u64 0,.slice none 0 0,.slice none 0 0,.int .u64 0,.int .u64 0,.int .u8 0,.int .i64 0,.int .u64 0,.int .i64 0,.int .u16 0,.int .u64 0,.int .i64 0,.int .u64 0,.int .i64 0,.slice none 0 0,.int .u64 0,.slice none 0 0,.slice none 0 0,.int .u64 0,.int .u64 0,.int .u8 0,.int .i64 0,.int .u64 0,.int .i64 0,.int .u16 0,.int .u64 0,.int .i64 0,.int .u64 0,.int .i64 0,.slice none 0 0,.int .u64 0,.slice none 0 0,.slice none 0 0,.int .u64 0,.int .u64 0,.int .u8 0,.int .i64 0,.int .u64 0,.int .i64 0,.int .u16 0,.int .u64 0,.int .i64 0,.int .u64 0,.int .i64 0,.slice none 0 0,.int .u64 0,.slice none 0 0,.slice none 0 0,.int .u64 0,.int .u64 0,.int .u8 0,.int .i64 0,.int .u64 0,.int .i64 0,.int .u16 0,.int .u64 0,.int .i64 0,.int .u64 0,.int .i64 0,.slice none 0 0,.int .u64 0,.slice none 0 0,.slice none 0 0,.int .u64 0,.int .u64 0,.int .u8 0,.int .i64 0,.int .u64 0,.int .i64 0,.int .u16 0,.int .u64 0,.int .i64 0,.int .u64 0,.int .i64 0,.slice none 0 0,.int .u64 0,.slice none 0 0,.slice none 0 0,.int .u64 0,.int .u64 0,.int .u8 0,.int .i64 0,.int .u64 0,.int .i64 0,.int .u16 0,.int .u64 0,.int .i64 0,.int .u64 0,.int .i64 0,.slice none 0 0,.int .u64 0,.slice none 0 0,.slice none 0 0,.int .u64 0,.int .u64 0,.int .u8 0,.int .i64 0,.int .u64 0,.int .i64 0,.int .u16 0,.int .u64 0,.int .i64 0,.int .u64 0,.int .i64 0,.slice none 0 0,.int .u64 0,.slice none 0 0,.slice none 0 0,.int .u64 0,.int .u64 0,.int .u8 0,.int .i64 0,.int .u64 0,.int .i64 0,.int .u16 0,.int .u64 0,.int .i64 0,.int .u64 0,.int .i64 0,.slice none 0 0,.int .u64 0,.slice none 0 0,.slice none 0 0,.int .u64 0,.int .u64 0,.int .u8 0,.int .i64 0,.int .u64 0,.int .i64 0,.int .u16 0,.int .u64 0,.int .i64 0,.int .u64 0,.int .i64 0,.slice none 0 0,.int .u64 0,.slice none 0 0,.slice none 0 0,.int .u64 0,.int .u64 0,.int .u8 0,.int .i64 0,.int .u64 0,.int .i64 0,.int .u16 0,.int .u64 0,.int .i64 0,.int .u64 0,.int .i64 0,.slice none 0 0,.int .u64 0,.slice none 0 0,.slice none 0 0,.int .u64 0,.int .u64 0,.int .u8 0,.int .i64 0,.int .u64 0,.int .i64 0,.int .u16 0,.int .u64 0,.int .i64 0,.int .u64 0,.int .i64 0,.slice none 0 0,.int .u64 0,.slice none 0 0,.slice none 0 0,.int .u64 0,.int .u64 0]) (.tmp rfl rfl) rfl) ?_
 rintro _ w6 ⟨g5,rfl,hs8⟩
 refine st (v:=.pointer (some ⟨g5,0,none⟩)) (x_assign (.tmp rfl rfl)) ?_
 refine st (v:=.int .i64 0) (x_assign .const) ?_
 refine c_nil (n_then (c_ret (leave_ret (res_two (v:=.pointer (some ⟨g5,0,none⟩)) (u:=.int .i64 0) rfl (.mk rfl rfl) (.mk rfl rfl)) ?_)))
 have hs9:St H _ (MM.res 78 81 37 (MM.mk (MB.new n z) g5 0 none 0 0 (.slice none 0 0) []) ++ (L)):=St.upL (L:=L) (A:=[]) [_] hs8
 exact ⟨(MM.mk (MB.new n z) g5 0 none 0 0 (.slice none 0 0) []),rfl,(MM.ok.new (by omega) (by omega) (by omega)),rfl,hs9⟩
end Go.Proofs.YtcccaihjgoaehaaDoor

set_option linter.unusedVariables false
set_option linter.unusedSimpArgs false
namespace Go.Proofs.YtcccaihjgoaehaaDoor
open Go Go.FM Go.Proofs
attribute [local irreducible] wpList wpQuiet wpS Code.wp Calls
set_option maxHeartbeats 8000000 in
theorem great_any {H:Hp} {w:World} {L:List Res} (hs:St H w (L)) (f:GFrame) {k_f:List Value} (h_f:kFrame.rep H f k_f):Calls Tryd.prog 23 #[.agg k_f.toArray] w (fun e w' => ∃ (z0:Bool),e = .returned (.bool z0)∧St H w' (L)):=by
 obtain ⟨A14,n15,c16,A19,n20,c21,A23,n24,c25,rfl,b1,⟨b2,b3⟩,b4,⟨b5,b6⟩,b7,b8,⟨b9,b10⟩,b11,⟨b12,b13⟩,hl17,b18,hl22,hl26,b27,b28⟩:=h_f
 have:=hl17.len; have:n15 * 48 ≤ 140737488351232:=hl17.bnd; have:=hl17.le
 have:=hl22.len; have:n20 * 24 ≤ 140737488351232:=hl22.bnd; have:=hl22.le
 have:=hl26.len; have:n24 * 32 ≤ 140737488351232:=hl26.bnd; have:=hl26.le
 refine enter (args:=[.agg #[.int .u8 ((f.Kind:Nat):Int),.int .i64 f.From,.int .u64 ((f.ID.N:Nat):Int),.int .i64 f.ID.P,.int .u16 ((f.Set:Nat):Int),.int .u64 ((f.Cur.N:Nat):Int),.int .i64 f.Cur.P,.int .u64 ((f.Prom.N:Nat):Int),.int .i64 f.Prom.P,.slice A14 n15 c16,.int .u64 ((f.Base:Nat):Int),.slice A19 n20 c21,.slice A23 n24 c25,.int .u64 ((f.Ack:Nat):Int),.int .u64 ((f.Safe:Nat):Int)]]) (N:=92) Tryd.func23 rfl rfl rfl ?_
 refine c_seq (c_region (st_m (m_box (cs:=[.int .u8 ((f.Kind:Nat):Int),.int .i64 f.From,.int .u64 ((f.ID.N:Nat):Int),.int .i64 f.ID.P,.int .u16 ((f.Set:Nat):Int),.int .u64 ((f.Cur.N:Nat):Int),.int .i64 f.Cur.P,.int .u64 ((f.Prom.N:Nat):Int),.int .i64 f.Prom.P,.slice A14 n15 c16,.int .u64 ((f.Base:Nat):Int),.slice A19 n20 c21,.slice A23 n24 c25,.int .u64 ((f.Ack:Nat):Int),.int .u64 ((f.Safe:Nat):Int)]) hs (v:=.agg #[.int .u8 ((f.Kind:Nat):Int),.int .i64 f.From,.int .u64 ((f.ID.N:Nat):Int),.int .i64 f.ID.P,.int .u16 ((f.Set:Nat):Int),.int .u64 ((f.Cur.N:Nat):Int),.int .i64 f.Cur.P,.int .u64 ((f.Prom.N:Nat):Int),.int .i64 f.Prom.P,.slice A14 n15 c16,.int .u64 ((f.Base:Nat):Int),.slice A19 n20 c21,.slice A23 n24 c25,.int .u64 ((f.Ack:Nat):Int),.int .u64 ((f.Safe:Nat):Int)]) (.tmp rfl rfl) rfl) ?_))
 rintro _ w30 ⟨g29,rfl,hs32⟩
 refine st (v:=.bool false) (x_assign .const) ?_
 refine c_nil (n_then (c_seq (c_region (st (v:=.pointer (some ⟨g29,0 + 11,none⟩)) (fa51_8 (.tmp rfl rfl)) ?_))))
 refine st (v:=.slice A19 n20 c21) (ld49 (.tmp rfl rfl) (hs32.cell 0 rfl (0 + 11) rfl)) ?_
 refine st (v:=.int .i64 ((n20:Nat):Int)) (x_len (n:=n20) Tryd.underlying49 (.tmp rfl rfl)) ?_
 refine st (v:=.pointer (some ⟨g29,0 + 12,none⟩)) (fa51_9 (.tmp rfl rfl)) ?_
 refine st (v:=.slice A23 n24 c25) (ld35 (.tmp rfl rfl) (hs32.cell 0 rfl (0 + 12) rfl)) ?_
 refine st (v:=.int .i64 ((n24:Nat):Int)) (x_len (n:=n24) Tryd.underlying35 (.tmp rfl rfl)) ?_
 refine st (v:=.int .i64 (((n20 + n24):Nat):Int)) (x_add (k:=.i64) (a:=((n20:Nat):Int)) (b:=((n24:Nat):Int)) (.tmp rfl rfl) (.tmp rfl rfl) ((w64 (by omega) (by omega)).trans (by omega))) ?_
 refine st (v:=.pointer (some ⟨g29,0 + 9,none⟩)) (fa51_6 (.tmp rfl rfl)) ?_
 refine st (v:=.slice A14 n15 c16) (ld40 (.tmp rfl rfl) (hs32.cell 0 rfl (0 + 9) rfl)) ?_
 refine st (v:=.int .i64 ((n15:Nat):Int)) (x_len (n:=n15) Tryd.underlying40 (.tmp rfl rfl)) ?_
 refine st (v:=.int .i64 ((((n20 + n24) + n15):Nat):Int)) (x_add (k:=.i64) (a:=(((n20 + n24):Nat):Int)) (b:=((n15:Nat):Int)) (.tmp rfl rfl) (.tmp rfl rfl) ((w64 (by omega) (by omega)).trans (by omega))) ?_
 refine st (v:=.int .i64 ((((n20 + n24) + n15):Nat):Int)) (x_assign (.tmp rfl rfl)) ?_
 refine c_nil (n_then (c_seq (c_seq (c_region (st (v:=.int .i64 0) (x_assign .const) ?_)))))
 refine c_nil (n_then (c_block (c_loop (fun ρ w mm => ∃ (n:Int) (i:Nat),ρ 1 = .pointer (some ⟨g29,0,none⟩)∧ρ 3 = .int .i64 n∧ρ 4 = .int .i64 ((i:Nat):Int)∧(-9223372036854775808 ≤ n∧n ≤ 9223372036854775807)∧(i ≤ f.Msgs.length)∧St H w (obj g29 51 [.int .u8 ((f.Kind:Nat):Int),.int .i64 f.From,.int .u64 ((f.ID.N:Nat):Int),.int .i64 f.ID.P,.int .u16 ((f.Set:Nat):Int),.int .u64 ((f.Cur.N:Nat):Int),.int .i64 f.Cur.P,.int .u64 ((f.Prom.N:Nat):Int),.int .i64 f.Prom.P,.slice A14 n15 c16,.int .u64 ((f.Base:Nat):Int),.slice A19 n20 c21,.slice A23 n24 c25,.int .u64 ((f.Ack:Nat):Int),.int .u64 ((f.Safe:Nat):Int)]::L)∧mm = f.Msgs.length - i) _ ⟨((((n20 + n24) + n15):Nat):Int),0,rfl,rfl,rfl,(by omega),(by omega),hs32,rfl⟩ ?_)))
 rintro ρ w mm ⟨n,i,hρ34,hρ35,hρ36,hn,hi,hs37,rfl⟩
 refine c_seq (c_seq (c_region (st (v:=.int .i64 ((i:Nat):Int)) (x_move (.tmp rfl hρ36)) ?_)))
 refine st (v:=.pointer (some ⟨g29,0 + 11,none⟩)) (fa51_8 (.tmp rfl hρ34)) ?_
 refine st (v:=.slice A19 n20 c21) (ld49 (.tmp rfl rfl) (hs37.cell 0 rfl (0 + 11) rfl)) ?_
 refine st (v:=.int .i64 ((n20:Nat):Int)) (x_len (n:=n20) Tryd.underlying49 (.tmp rfl rfl)) ?_
 refine st (v:=.bool (decide ((((i:Nat):Int):Int) < ((n20:Nat):Int)))) (x_lss (k:=.i64) (a:=((i:Nat):Int)) (b:=((n20:Nat):Int)) (.tmp rfl rfl) (.tmp rfl rfl)) ?_
 refine c_nil (n_then ?_)
 rcases Bool.eq_false_or_eq_true (decide ((((i:Nat):Int):Int) < ((n20:Nat):Int))) with hc38 | hc38
 have hp38:(((i:Nat):Int):Int) < ((n20:Nat):Int):=of_decide_eq_true hc38
 refine c_cond_t (t:=true) (.tmp rfl (cVb hc38)) rfl ?_
 refine c_skip (n_then (c_seq (c_block (c_region (st (v:=.int .i64 n) (x_move (.tmp rfl hρ35)) ?_)))))
 refine st (v:=.pointer (some ⟨g29,0 + 11,none⟩)) (fa51_8 (.tmp rfl hρ34)) ?_
 refine st (v:=.slice A19 n20 c21) (ld49 (.tmp rfl rfl) (hs37.cell 0 rfl (0 + 11) rfl)) ?_
 refine st (v:=.int .i64 ((i:Nat):Int)) (x_move (.tmp rfl hρ36)) ?_
 obtain ⟨e39,b40,o41,cs42,hx43,hA44,hr45,hat46⟩:=hl22.get (i:=i) (by omega)
 obtain ⟨A47,n48,c49,rfl,hy50⟩:=hr45
 have:=hy50.len; have:=hy50.bnd; have:=hy50.le
 have hat46x:∀ {w:World} {L:List Res},St H w L → At w ⟨b40,o41 + i * 1,none⟩ [.slice A47 n48 c49]:=fun h => hat46 h
 refine st (v:=.pointer (some ⟨b40,(o41 + i * 1),none⟩)) (ixo49 (.tmp rfl rfl) hA44 (i:=((i:Nat):Int)) (.tmp rfl rfl) (by omega) (by omega) (by omega)) ?_
 refine st (v:=.slice A47 n48 c49) (ld90 (.tmp rfl rfl) ((hat46x hs37).cell 0 rfl)) ?_
 refine st (v:=.int .i64 ((n48:Nat):Int)) (x_len (n:=n48) Tryd.underlying90 (.tmp rfl rfl)) ?_
 obtain ⟨r51,hr52,b53,b54⟩:=wrap_any (n + ((n48:Nat):Int))
 refine st (v:=.int .i64 r51) (x_add (k:=.i64) (a:=n) (b:=((n48:Nat):Int)) (.tmp rfl rfl) (.tmp rfl rfl) hr52) ?_
 refine st (v:=.int .i64 r51) (x_assign (.tmp rfl rfl)) ?_
 refine c_nil (n_block (n_then (c_region (st (v:=.int .i64 ((i:Nat):Int)) (x_move (.tmp rfl hρ36)) ?_))))
 refine st (v:=.int .i64 (((i + 1):Nat):Int)) (x_add (k:=.i64) (a:=((i:Nat):Int)) (b:=1) (.tmp rfl rfl) .const ((w64 (by omega) (by omega)).trans (by omega))) ?_
 refine st (v:=.int .i64 (((i + 1):Nat):Int)) (x_assign (.tmp rfl rfl)) ?_
 refine c_nil ?_
 refine n_then ⟨_,_,rfl,?_,r51,(i + 1),hρ34,rfl,rfl,(by omega),(by omega),hs37,rfl⟩
 omega
 have hp38:¬ ((((i:Nat):Int):Int) < ((n20:Nat):Int)):=of_decide_eq_false hc38
 refine c_cond_f (t:=false) (.tmp rfl (cVb hc38)) rfl ?_
 refine c_exit (x_then (x_then (x_here (n_then (c_seq (c_seq (c_region (st (v:=.int .i64 0) (x_assign .const) ?_))))))))
 refine c_nil (n_then (c_block (c_loop (fun ρ w mm => ∃ (n:Int) (j:Nat),ρ 1 = .pointer (some ⟨g29,0,none⟩)∧ρ 3 = .int .i64 n∧ρ 5 = .int .i64 ((j:Nat):Int)∧(-9223372036854775808 ≤ n∧n ≤ 9223372036854775807)∧(j ≤ f.Items.length)∧St H w (obj g29 51 [.int .u8 ((f.Kind:Nat):Int),.int .i64 f.From,.int .u64 ((f.ID.N:Nat):Int),.int .i64 f.ID.P,.int .u16 ((f.Set:Nat):Int),.int .u64 ((f.Cur.N:Nat):Int),.int .i64 f.Cur.P,.int .u64 ((f.Prom.N:Nat):Int),.int .i64 f.Prom.P,.slice A14 n15 c16,.int .u64 ((f.Base:Nat):Int),.slice A19 n20 c21,.slice A23 n24 c25,.int .u64 ((f.Ack:Nat):Int),.int .u64 ((f.Safe:Nat):Int)]::L)∧mm = f.Items.length - j) _ ⟨n,0,hρ34,hρ35,rfl,(by omega),(by omega),hs37,rfl⟩ ?_)))
 rintro ρ w mm ⟨n,j,hρ56,hρ57,hρ58,hn,hj,hs59,rfl⟩
 refine c_seq (c_seq (c_region (st (v:=.int .i64 ((j:Nat):Int)) (x_move (.tmp rfl hρ58)) ?_)))
 refine st (v:=.pointer (some ⟨g29,0 + 12,none⟩)) (fa51_9 (.tmp rfl hρ56)) ?_
 refine st (v:=.slice A23 n24 c25) (ld35 (.tmp rfl rfl) (hs59.cell 0 rfl (0 + 12) rfl)) ?_
 refine st (v:=.int .i64 ((n24:Nat):Int)) (x_len (n:=n24) Tryd.underlying35 (.tmp rfl rfl)) ?_
 refine st (v:=.bool (decide ((((j:Nat):Int):Int) < ((n24:Nat):Int)))) (x_lss (k:=.i64) (a:=((j:Nat):Int)) (b:=((n24:Nat):Int)) (.tmp rfl rfl) (.tmp rfl rfl)) ?_
 refine c_nil (n_then ?_)
 rcases Bool.eq_false_or_eq_true (decide ((((j:Nat):Int):Int) < ((n24:Nat):Int))) with hc60 | hc60
 have hp60:(((j:Nat):Int):Int) < ((n24:Nat):Int):=of_decide_eq_true hc60
 refine c_cond_t (t:=true) (.tmp rfl (cVb hc60)) rfl ?_
 refine c_skip (n_then (c_seq (c_block (c_region (st (v:=.int .i64 n) (x_move (.tmp rfl hρ57)) ?_)))))
 refine st (v:=.pointer (some ⟨g29,0 + 12,none⟩)) (fa51_9 (.tmp rfl hρ56)) ?_
 refine st (v:=.slice A23 n24 c25) (ld35 (.tmp rfl rfl) (hs59.cell 0 rfl (0 + 12) rfl)) ?_
 refine st (v:=.int .i64 ((j:Nat):Int)) (x_move (.tmp rfl hρ58)) ?_
 obtain ⟨e61,b62,o63,cs64,hx65,hA66,hr67,hat68⟩:=hl26.get (i:=j) (by omega)
 obtain ⟨A71,n72,c73,rfl,⟨b69,b70⟩,hy74⟩:=hr67
 have:=hy74.len; have:=hy74.bnd; have:=hy74.le
 have hat68x:∀ {w:World} {L:List Res},St H w L → At w ⟨b62,o63 + j * 2,none⟩ [.int .i64 e61.From,.slice A71 n72 c73]:=fun h => hat68 h
 refine st (v:=.pointer (some ⟨b62,(o63 + j * 2),none⟩)) (ixo35 (.tmp rfl rfl) hA66 (i:=((j:Nat):Int)) (.tmp rfl rfl) (by omega) (by omega) (by omega)) ?_
 refine st (v:=.pointer (some ⟨b62,(o63 + j * 2) + 1,none⟩)) (fa92_1 (.tmp rfl rfl)) ?_
 refine st (v:=.slice A71 n72 c73) (ld90 (.tmp rfl rfl) ((hat68x hs59).cell 1 rfl)) ?_
 refine st (v:=.int .i64 ((n72:Nat):Int)) (x_len (n:=n72) Tryd.underlying90 (.tmp rfl rfl)) ?_
 obtain ⟨r75,hr76,b77,b78⟩:=wrap_any (n + ((n72:Nat):Int))
 refine st (v:=.int .i64 r75) (x_add (k:=.i64) (a:=n) (b:=((n72:Nat):Int)) (.tmp rfl rfl) (.tmp rfl rfl) hr76) ?_
 refine st (v:=.int .i64 r75) (x_assign (.tmp rfl rfl)) ?_
 refine c_nil (n_block (n_then (c_region (st (v:=.int .i64 ((j:Nat):Int)) (x_move (.tmp rfl hρ58)) ?_))))
 refine st (v:=.int .i64 (((j + 1):Nat):Int)) (x_add (k:=.i64) (a:=((j:Nat):Int)) (b:=1) (.tmp rfl rfl) .const ((w64 (by omega) (by omega)).trans (by omega))) ?_
 refine st (v:=.int .i64 (((j + 1):Nat):Int)) (x_assign (.tmp rfl rfl)) ?_
 refine c_nil ?_
 refine n_then ⟨_,_,rfl,?_,r75,(j + 1),hρ56,rfl,rfl,(by omega),(by omega),hs59,rfl⟩
 omega
 have hp60:¬ ((((j:Nat):Int):Int) < ((n24:Nat):Int)):=of_decide_eq_false hc60
 refine c_cond_f (t:=false) (.tmp rfl (cVb hc60)) rfl ?_
 refine c_exit (x_then (x_then (x_here (n_then (c_seq (c_seq (c_region (st (v:=.int .i64 0) (x_assign .const) ?_))))))))
 refine c_nil (n_then (c_block (c_loop (fun ρ w mm => ∃ (n:Int) (q:Nat),ρ 1 = .pointer (some ⟨g29,0,none⟩)∧ρ 3 = .int .i64 n∧ρ 6 = .int .i64 ((q:Nat):Int)∧(-9223372036854775808 ≤ n∧n ≤ 9223372036854775807)∧(q ≤ f.States.length)∧St H w (obj g29 51 [.int .u8 ((f.Kind:Nat):Int),.int .i64 f.From,.int .u64 ((f.ID.N:Nat):Int),.int .i64 f.ID.P,.int .u16 ((f.Set:Nat):Int),.int .u64 ((f.Cur.N:Nat):Int),.int .i64 f.Cur.P,.int .u64 ((f.Prom.N:Nat):Int),.int .i64 f.Prom.P,.slice A14 n15 c16,.int .u64 ((f.Base:Nat):Int),.slice A19 n20 c21,.slice A23 n24 c25,.int .u64 ((f.Ack:Nat):Int),.int .u64 ((f.Safe:Nat):Int)]::L)∧mm = f.States.length - q) _ ⟨n,0,hρ56,hρ57,rfl,(by omega),(by omega),hs59,rfl⟩ ?_)))
 rintro ρ w mm ⟨n,q,hρ80,hρ81,hρ82,hn,hq,hs83,rfl⟩
 refine c_seq (c_seq (c_region (st (v:=.int .i64 ((q:Nat):Int)) (x_move (.tmp rfl hρ82)) ?_)))
 refine st (v:=.pointer (some ⟨g29,0 + 9,none⟩)) (fa51_6 (.tmp rfl hρ80)) ?_
 refine st (v:=.slice A14 n15 c16) (ld40 (.tmp rfl rfl) (hs83.cell 0 rfl (0 + 9) rfl)) ?_
 refine st (v:=.int .i64 ((n15:Nat):Int)) (x_len (n:=n15) Tryd.underlying40 (.tmp rfl rfl)) ?_
 refine st (v:=.bool (decide ((((q:Nat):Int):Int) < ((n15:Nat):Int)))) (x_lss (k:=.i64) (a:=((q:Nat):Int)) (b:=((n15:Nat):Int)) (.tmp rfl rfl) (.tmp rfl rfl)) ?_
 refine c_nil (n_then ?_)
 rcases Bool.eq_false_or_eq_true (decide ((((q:Nat):Int):Int) < ((n15:Nat):Int))) with hc84 | hc84
 have hp84:(((q:Nat):Int):Int) < ((n15:Nat):Int):=of_decide_eq_true hc84
 refine c_cond_t (t:=true) (.tmp rfl (cVb hc84)) rfl ?_
 refine c_skip (n_then (c_seq (c_block (c_seq (c_region (st (v:=.int .i64 n) (x_move (.tmp rfl hρ81)) ?_))))))
 refine st (v:=.pointer (some ⟨g29,0 + 9,none⟩)) (fa51_6 (.tmp rfl hρ80)) ?_
 refine st (v:=.slice A14 n15 c16) (ld40 (.tmp rfl rfl) (hs83.cell 0 rfl (0 + 9) rfl)) ?_
 refine st (v:=.int .i64 ((q:Nat):Int)) (x_move (.tmp rfl hρ82)) ?_
 obtain ⟨e85,b86,o87,cs88,hx89,hA90,hr91,hat92⟩:=hl17.get (i:=q) (by omega)
 obtain ⟨A98,n99,c100,rfl,b93,⟨b94,b95⟩,⟨b96,b97⟩,hl101⟩:=hr91
 have:=hl101.len; have:n99 * 32 ≤ 140737488351232:=hl101.bnd; have:=hl101.le
 have hat92x:∀ {w:World} {L:List Res},St H w L → At w ⟨b86,o87 + q * 4,none⟩ [.int .u64 ((e85.V.N:Nat):Int),.int .i64 e85.V.P,.int .i64 e85.Floor,.slice A98 n99 c100]:=fun h => hat92 h
 refine st (v:=.pointer (some ⟨b86,(o87 + q * 4),none⟩)) (ixo40 (.tmp rfl rfl) hA90 (i:=((q:Nat):Int)) (.tmp rfl rfl) (by omega) (by omega) (by omega)) ?_
 refine st (v:=.pointer (some ⟨b86,(o87 + q * 4) + 3,none⟩)) (fa37_2 (.tmp rfl rfl)) ?_
 refine st (v:=.slice A98 n99 c100) (ld35 (.tmp rfl rfl) ((hat92x hs83).cell 3 rfl)) ?_
 refine st (v:=.int .i64 ((n99:Nat):Int)) (x_len (n:=n99) Tryd.underlying35 (.tmp rfl rfl)) ?_
 obtain ⟨r102,hr103,b104,b105⟩:=wrap_any (n + ((n99:Nat):Int))
 refine st (v:=.int .i64 r102) (x_add (k:=.i64) (a:=n) (b:=((n99:Nat):Int)) (.tmp rfl rfl) (.tmp rfl rfl) hr103) ?_
 refine st (v:=.int .i64 r102) (x_assign (.tmp rfl rfl)) ?_
 refine c_nil (n_then (c_seq (c_region (st (v:=.int .i64 0) (x_assign .const) ?_))))
 refine c_nil (n_then (c_block (c_loop (fun ρ w mm => ∃ (n:Int) (k:Nat),ρ 1 = .pointer (some ⟨g29,0,none⟩)∧ρ 3 = .int .i64 n∧ρ 6 = .int .i64 ((q:Nat):Int)∧ρ 7 = .int .i64 ((k:Nat):Int)∧(-9223372036854775808 ≤ n∧n ≤ 9223372036854775807)∧(k ≤ e85.Items.length)∧St H w (obj g29 51 [.int .u8 ((f.Kind:Nat):Int),.int .i64 f.From,.int .u64 ((f.ID.N:Nat):Int),.int .i64 f.ID.P,.int .u16 ((f.Set:Nat):Int),.int .u64 ((f.Cur.N:Nat):Int),.int .i64 f.Cur.P,.int .u64 ((f.Prom.N:Nat):Int),.int .i64 f.Prom.P,.slice A14 n15 c16,.int .u64 ((f.Base:Nat):Int),.slice A19 n20 c21,.slice A23 n24 c25,.int .u64 ((f.Ack:Nat):Int),.int .u64 ((f.Safe:Nat):Int)]::L)∧mm = e85.Items.length - k) _ ⟨r102,0,hρ80,rfl,hρ82,rfl,(by omega),(by omega),hs83,rfl⟩ ?_)))
 rintro ρ w mm ⟨n,k,hρ107,hρ108,hρ109,hρ110,hn,hk,hs111,rfl⟩
 refine c_seq (c_seq (c_region (st (v:=.int .i64 ((k:Nat):Int)) (x_move (.tmp rfl hρ110)) ?_)))
 refine st (v:=.pointer (some ⟨g29,0 + 9,none⟩)) (fa51_6 (.tmp rfl hρ107)) ?_
 refine st (v:=.slice A14 n15 c16) (ld40 (.tmp rfl rfl) (hs111.cell 0 rfl (0 + 9) rfl)) ?_
 refine st (v:=.int .i64 ((q:Nat):Int)) (x_move (.tmp rfl hρ109)) ?_
 refine st (v:=.pointer (some ⟨b86,(o87 + q * 4),none⟩)) (ixo40 (.tmp rfl rfl) hA90 (i:=((q:Nat):Int)) (.tmp rfl rfl) (by omega) (by omega) (by omega)) ?_
 refine st (v:=.pointer (some ⟨b86,(o87 + q * 4) + 3,none⟩)) (fa37_2 (.tmp rfl rfl)) ?_
 refine st (v:=.slice A98 n99 c100) (ld35 (.tmp rfl rfl) ((hat92x hs111).cell 3 rfl)) ?_
 refine st (v:=.int .i64 ((n99:Nat):Int)) (x_len (n:=n99) Tryd.underlying35 (.tmp rfl rfl)) ?_
 refine st (v:=.bool (decide ((((k:Nat):Int):Int) < ((n99:Nat):Int)))) (x_lss (k:=.i64) (a:=((k:Nat):Int)) (b:=((n99:Nat):Int)) (.tmp rfl rfl) (.tmp rfl rfl)) ?_
 refine c_nil (n_then ?_)
 rcases Bool.eq_false_or_eq_true (decide ((((k:Nat):Int):Int) < ((n99:Nat):Int))) with hc112 | hc112
 have hp112:(((k:Nat):Int):Int) < ((n99:Nat):Int):=of_decide_eq_true hc112
 refine c_cond_t (t:=true) (.tmp rfl (cVb hc112)) rfl ?_
 refine c_skip (n_then (c_seq (c_block (c_region (st (v:=.int .i64 n) (x_move (.tmp rfl hρ108)) ?_)))))
 refine st (v:=.pointer (some ⟨g29,0 + 9,none⟩)) (fa51_6 (.tmp rfl hρ107)) ?_
 refine st (v:=.slice A14 n15 c16) (ld40 (.tmp rfl rfl) (hs111.cell 0 rfl (0 + 9) rfl)) ?_
 refine st (v:=.int .i64 ((q:Nat):Int)) (x_move (.tmp rfl hρ109)) ?_
 refine st (v:=.pointer (some ⟨b86,(o87 + q * 4),none⟩)) (ixo40 (.tmp rfl rfl) hA90 (i:=((q:Nat):Int)) (.tmp rfl rfl) (by omega) (by omega) (by omega)) ?_
 refine st (v:=.pointer (some ⟨b86,(o87 + q * 4) + 3,none⟩)) (fa37_2 (.tmp rfl rfl)) ?_
 refine st (v:=.slice A98 n99 c100) (ld35 (.tmp rfl rfl) ((hat92x hs111).cell 3 rfl)) ?_
 refine st (v:=.int .i64 ((k:Nat):Int)) (x_move (.tmp rfl hρ110)) ?_
 obtain ⟨e113,b114,o115,cs116,hx117,hA118,hr119,hat120⟩:=hl101.get (i:=k) (by omega)
 obtain ⟨A123,n124,c125,rfl,⟨b121,b122⟩,hy126⟩:=hr119
 have:=hy126.len; have:=hy126.bnd; have:=hy126.le
 have hat120x:∀ {w:World} {L:List Res},St H w L → At w ⟨b114,o115 + k * 2,none⟩ [.int .i64 e113.From,.slice A123 n124 c125]:=fun h => hat120 h
 refine st (v:=.pointer (some ⟨b114,(o115 + k * 2),none⟩)) (ixo35 (.tmp rfl rfl) hA118 (i:=((k:Nat):Int)) (.tmp rfl rfl) (by omega) (by omega) (by omega)) ?_
 refine st (v:=.pointer (some ⟨b114,(o115 + k * 2) + 1,none⟩)) (fa92_1 (.tmp rfl rfl)) ?_
 refine st (v:=.slice A123 n124 c125) (ld90 (.tmp rfl rfl) ((hat120x hs111).cell 1 rfl)) ?_
 refine st (v:=.int .i64 ((n124:Nat):Int)) (x_len (n:=n124) Tryd.underlying90 (.tmp rfl rfl)) ?_
 obtain ⟨r127,hr128,b129,b130⟩:=wrap_any (n + ((n124:Nat):Int))
 refine st (v:=.int .i64 r127) (x_add (k:=.i64) (a:=n) (b:=((n124:Nat):Int)) (.tmp rfl rfl) (.tmp rfl rfl) hr128) ?_
 refine st (v:=.int .i64 r127) (x_assign (.tmp rfl rfl)) ?_
 refine c_nil (n_block (n_then (c_region (st (v:=.int .i64 ((k:Nat):Int)) (x_move (.tmp rfl hρ110)) ?_))))
 refine st (v:=.int .i64 (((k + 1):Nat):Int)) (x_add (k:=.i64) (a:=((k:Nat):Int)) (b:=1) (.tmp rfl rfl) .const ((w64 (by omega) (by omega)).trans (by omega))) ?_
 refine st (v:=.int .i64 (((k + 1):Nat):Int)) (x_assign (.tmp rfl rfl)) ?_
 refine c_nil ?_
 refine n_then ⟨_,_,rfl,?_,r127,(k + 1),hρ107,rfl,hρ109,rfl,(by omega),(by omega),hs111,rfl⟩
 omega
 have hp112:¬ ((((k:Nat):Int):Int) < ((n99:Nat):Int)):=of_decide_eq_false hc112
 refine c_cond_f (t:=false) (.tmp rfl (cVb hc112)) rfl ?_
 refine c_exit (x_then (x_then (x_here (n_block (n_then (c_region (st (v:=.int .i64 ((q:Nat):Int)) (x_move (.tmp rfl hρ109)) ?_)))))))
 refine st (v:=.int .i64 (((q + 1):Nat):Int)) (x_add (k:=.i64) (a:=((q:Nat):Int)) (b:=1) (.tmp rfl rfl) .const ((w64 (by omega) (by omega)).trans (by omega))) ?_
 refine st (v:=.int .i64 (((q + 1):Nat):Int)) (x_assign (.tmp rfl rfl)) ?_
 refine c_nil ?_
 refine n_then ⟨_,_,rfl,?_,n,(q + 1),hρ107,hρ108,rfl,(by omega),(by omega),hs111,rfl⟩
 omega
 have hp84:¬ ((((q:Nat):Int):Int) < ((n15:Nat):Int)):=of_decide_eq_false hc84
 refine c_cond_f (t:=false) (.tmp rfl (cVb hc84)) rfl ?_
 refine c_exit (x_then (x_then (x_here (n_then (c_seq (c_region (st (v:=.int .i64 n) (x_move (.tmp rfl hρ81)) ?_)))))))
 refine st (v:=.bool (decide ((20000:Int) < n))) (x_gtr (k:=.i64) (a:=n) (b:=20000) (.tmp rfl rfl) .const) ?_
 refine st (v:=.bool (decide ((20000:Int) < n))) (x_assign (.tmp rfl rfl)) ?_
 refine c_nil (n_then (c_ret (leave_ret (res_one (v:=.bool (decide ((20000:Int) < n))) rfl (.mk rfl rfl)) ?_)))
 exact ⟨(decide ((20000:Int) < n)),rfl,hs83.drop⟩
end Go.Proofs.YtcccaihjgoaehaaDoor

set_option linter.unusedVariables false
set_option linter.unusedSimpArgs false
namespace Go.Proofs.YtcccaihjgoaehaaDoor
open Go Go.FM Go.Proofs
attribute [local irreducible] wpList wpQuiet wpS Code.wp Calls
set_option maxHeartbeats 8000000 in
theorem awake_spec {H:Hp} {w:World} {L:List Res} (hs:St H w (L)) (htab:Tab H):Calls Tryd.prog 10 #[] w (fun e w' => e = .returned (.bool true)∧St H w' (L)):=by
 refine enter (args:=[]) (N:=90) Tryd.func10 rfl rfl rfl ?_
 refine c_seq (c_region (st (v:=.bool false) (x_assign .const) ?_))
 refine c_nil (n_then (c_seq (c_region (st_c cb11 .func (evs2 .const .const) (new_mm hs 2 0 (by omega) (by omega) (by omega)) ?_))))
 rintro e w1 ⟨mm3,rfl,mok4,hmm5,hs2⟩
 refine ⟨_,rfl,?_⟩
 refine st (v:=.tuple #[.pointer (some ⟨mm3.g,0,none⟩),.int .i64 0]) (x_move (.tmp rfl rfl)) ?_
 refine st (v:=.pointer (some ⟨mm3.g,0,none⟩)) (x_extract (.tmp rfl rfl) (i:=0) rfl) ?_
 refine st (v:=.int .i64 0) (x_extract (.tmp rfl rfl) (i:=1) rfl) ?_
 refine st (v:=.pointer (some ⟨mm3.g,0,none⟩)) (x_assign (.tmp rfl rfl)) ?_
 refine st (v:=.int .i64 0) (x_assign (.tmp rfl rfl)) ?_
 refine c_nil (n_then (c_seq (c_seq (c_region (st (v:=.int .i64 0) (x_move (.tmp rfl rfl)) ?_)))))
 refine st (v:=.bool false) (x_neq (k:=.i64) (a:=0) (b:=0) (.tmp rfl rfl) .const) ?_
 refine st (v:=.bool false) (x_move (.tmp rfl rfl)) ?_
 refine g_yes (yl (dj:=14) (b:=false) rfl rfl rfl) ?_
 refine st (v:=.pointer (some ⟨mm3.g,0,none⟩)) (x_move (.tmp rfl rfl)) ?_
 refine g_yes (yl (dj:=14) (b:=false) rfl rfl rfl) ?_
 refine st (v:=.bool false) (x_eqlP Tryd.underlying23 (.tmp rfl rfl) .const rfl) ?_
 refine st (v:=.bool false) (x_pick_f (.tmp rfl rfl) (.tmp rfl rfl)) ?_
 refine c_nil (n_then (c_cond_f (t:=false) (.tmp rfl rfl) rfl ?_))
 refine c_skip (n_then (c_seq (c_region (st (v:=.pointer (some ⟨mm3.g,0,none⟩)) (x_move (.tmp rfl rfl)) ?_))))
 refine st (v:=.agg #[.int .u64 0,.int .i64 0,.int .i64 0,.slice none 0 0]) (bl37 (ps:=[]) Evp.nil rfl) ?_
 have hs8:St H _ (MM.res 78 81 37 mm3 ++ (L)):=St.upL [] hs2
 have hr9:kState.rep H (GState.mk (GViewID.mk 0 0) 0 []) [.int .u64 0,.int .i64 0,.int .i64 0,.slice none 0 0]:=⟨none,0,0,rfl,(show 0 < 18446744073709551616 from by omega),(show IB 0 from ⟨by omega,by omega⟩),(show IB 0 from ⟨by omega,by omega⟩),(Sl.nil _ _ none)⟩
 refine st_c cb12 .func (evs3 (.tmp rfl rfl) .const (.tmp rfl rfl)) (tick_mm hs8 (x:=mm3) mok4 3 (by decide) (GState.mk (GViewID.mk 0 0) 0 []) hr9 (by decide) htab) ?_
 rintro e w10 ⟨H12,v14,cs17,iv19,mm21,hle13,rfl,ok15,hk18,hin20,mok22,hmg23,hmm24,hs11⟩
 refine ⟨_,rfl,?_⟩
 have hs26:=St.upL [row 53 16 v14 (((MB.tick mm3.m 3 (GState.mk (GViewID.mk 0 0) 0 [])).2.1).length) cs17] hs11
 have hs25:St H12 _ (row 53 16 v14 (((MB.tick mm3.m 3 (GState.mk (GViewID.mk 0 0) 0 [])).2.1).length) cs17::MM.res 78 81 37 mm21 ++ (L)):=St.downL [row 53 16 v14 (((MB.tick mm3.m 3 (GState.mk (GViewID.mk 0 0) 0 [])).2.1).length) cs17] hs26
 refine st (v:=.tuple #[v14,iv19]) (x_move (.tmp rfl rfl)) ?_
 refine st (v:=v14) (x_extract (.tmp rfl rfl) (i:=0) rfl) ?_
 refine st (v:=iv19) (x_extract (.tmp rfl rfl) (i:=1) rfl) ?_
 refine st (v:=v14) (x_assign (.tmp rfl rfl)) ?_
 refine st (v:=iv19) (x_assign (.tmp rfl rfl)) ?_
 refine c_nil (n_then (c_seq (c_seq (c_region (st (v:=v14) (x_move (.tmp rfl rfl)) ?_)))))
 obtain ⟨A27,c28,hv29,hc30⟩:=ok15.slice
 refine st (v:=.int .i64 ((((MB.tick mm3.m 3 (GState.mk (GViewID.mk 0 0) 0 [])).2.1).length:Nat):Int)) (x_len (n:=((MB.tick mm3.m 3 (GState.mk (GViewID.mk 0 0) 0 [])).2.1).length) Tryd.underlying27 (.tmp rfl hv29)) ?_
 refine st (v:=.bool (decide ((((((MB.tick mm3.m 3 (GState.mk (GViewID.mk 0 0) 0 [])).2.1).length:Nat):Int):Int) ≠ 1))) (x_neq (k:=.i64) (a:=((((MB.tick mm3.m 3 (GState.mk (GViewID.mk 0 0) 0 [])).2.1).length:Nat):Int)) (b:=1) (.tmp rfl rfl) .const) ?_
 refine st (v:=.bool (decide ((((((MB.tick mm3.m 3 (GState.mk (GViewID.mk 0 0) 0 [])).2.1).length:Nat):Int):Int) ≠ 1))) (x_move (.tmp rfl rfl)) ?_
 have hc31:(decide ((((((MB.tick mm3.m 3 (GState.mk (GViewID.mk 0 0) 0 [])).2.1).length:Nat):Int):Int) ≠ 1)) = false:=(by rw [hmm5]; decide +kernel)
 have hp31:¬ ((((((MB.tick mm3.m 3 (GState.mk (GViewID.mk 0 0) 0 [])).2.1).length:Nat):Int):Int) ≠ 1):=of_decide_eq_false hc31
 refine g_yes (yk 27 false rfl rfl hc31) ?_
 refine st (v:=iv19) (x_move (.tmp rfl rfl)) ?_
 refine g_yes (yk 27 false rfl rfl hc31) ?_
 obtain rfl:iv19 = .pointer none:=by have h9:=hin20; rw [show (MB.tick mm3.m 3 (GState.mk (GViewID.mk 0 0) 0 [])).2.2 = none from (by rw [hmm5]; decide +kernel)] at h9; exact h9
 refine st (v:=.bool false) (x_neqP Tryd.underlying28 (.tmp rfl rfl) .const rfl) ?_
 refine st (v:=.bool false) (x_pick_f (.tmp rfl (cVb hc31)) (.tmp rfl rfl)) ?_
 refine st (v:=.bool false) (x_move (.tmp rfl rfl)) ?_
 refine g_yes (yl (dj:=31) (b:=false) rfl rfl rfl) ?_
 refine st (v:=v14) (x_move (.tmp rfl rfl)) ?_
 refine g_yes (yl (dj:=31) (b:=false) rfl rfl rfl) ?_
 obtain ⟨g39,c40,hv41⟩:=ok15.pos (by omega)
 obtain ⟨e42,cs43,hx44,hr45,hsub46⟩:=Kn.rows_get (i:=0) hk18 (by omega)
 obtain ⟨A62,n63,c64,A67,n68,c69,A71,n72,c73,rfl,⟨b47,b48⟩,b49,⟨b50,b51⟩,b52,⟨b53,b54⟩,b55,b56,⟨b57,b58⟩,b59,⟨b60,b61⟩,hl65,b66,hl70,hl74,b75,b76⟩:=hr45
 have:=hl65.len; have:n63 * 48 ≤ 140737488351232:=hl65.bnd; have:=hl65.le
 have:=hl70.len; have:n68 * 24 ≤ 140737488351232:=hl70.bnd; have:=hl70.le
 have:=hl74.len; have:n72 * 32 ≤ 140737488351232:=hl74.bnd; have:=hl74.le
 have hk_e42:=el_eval (fun o:GOut => o.F.Kind) 2 hx44 (by rw [hmm5]; decide +kernel)
 have hi_e42:=el_eval (fun o:GOut => o.F.ID) (GViewID.mk 1 0) hx44 (by rw [hmm5]; decide +kernel)
 have hk2_e42:e42.F.Kind = 2:=hk_e42
 refine st (v:=.pointer (some ⟨g39,(0 * 16),none⟩)) (ixo27 (.tmp rfl hv41) rfl (i:=0) .const (by omega) (by omega) (by omega)) ?_
 refine g_yes (yl (dj:=31) (b:=false) rfl rfl rfl) ?_
 refine st (v:=.pointer (some ⟨g39,(0 * 16) + 1,none⟩)) (fa53_1 (.tmp rfl rfl)) ?_
 refine g_yes (yl (dj:=31) (b:=false) rfl rfl rfl) ?_
 refine st (v:=.pointer (some ⟨g39,(0 * 16) + 1 + 0,none⟩)) (fa51_0 (.tmp rfl rfl)) ?_
 refine g_yes (yl (dj:=31) (b:=false) rfl rfl rfl) ?_
 refine st (v:=.int .u8 ((e42.F.Kind:Nat):Int)) (ld5 (.tmp rfl rfl) ((hs25.rowAt 0 rfl hv41 (0 * 16) hsub46).cell 1 rfl)) ?_
 refine g_yes (yl (dj:=31) (b:=false) rfl rfl rfl) ?_
 refine st (v:=.bool (decide ((((e42.F.Kind:Nat):Int):Int) ≠ 2))) (x_neq (k:=.u8) (a:=((e42.F.Kind:Nat):Int)) (b:=2) (.tmp rfl rfl) .const) ?_
 refine st (v:=.bool (decide ((((e42.F.Kind:Nat):Int):Int) ≠ 2))) (x_pick_f (.tmp rfl rfl) (.tmp rfl rfl)) ?_
 refine st (v:=.bool (decide ((((e42.F.Kind:Nat):Int):Int) ≠ 2))) (x_move (.tmp rfl rfl)) ?_
 have hc77:(decide ((((e42.F.Kind:Nat):Int):Int) ≠ 2)) = false:=(decide_eq_false (by omega))
 have hp77:¬ ((((e42.F.Kind:Nat):Int):Int) ≠ 2):=of_decide_eq_false hc77
 refine g_yes (yk 39 false rfl rfl hc77) ?_
 refine st (v:=v14) (x_move (.tmp rfl rfl)) ?_
 refine g_yes (yk 39 false rfl rfl hc77) ?_
 obtain ⟨g78,c79,hv80⟩:=ok15.pos (by omega)
 refine st (v:=.pointer (some ⟨g78,(0 * 16),none⟩)) (ixo27 (.tmp rfl hv80) rfl (i:=0) .const (by omega) (by omega) (by omega)) ?_
 refine g_yes (yk 39 false rfl rfl hc77) ?_
 refine st (v:=.pointer (some ⟨g78,(0 * 16) + 1,none⟩)) (fa53_1 (.tmp rfl rfl)) ?_
 refine g_yes (yk 39 false rfl rfl hc77) ?_
 refine st (v:=.pointer (some ⟨g78,(0 * 16) + 1 + 2,none⟩)) (fa51_2 (.tmp rfl rfl)) ?_
 refine g_yes (yk 39 false rfl rfl hc77) ?_
 refine st (v:=.agg #[.int .u64 ((e42.F.ID.N:Nat):Int),.int .i64 e42.F.ID.P]) (ld34 (cs:=[.int .u64 ((e42.F.ID.N:Nat):Int),.int .i64 e42.F.ID.P]) (.tmp rfl rfl) ((hs25.rowAt 0 rfl hv80 (0 * 16) hsub46).sub 3 rfl) rfl) ?_
 refine g_yes (yk 39 false rfl rfl hc77) ?_
 refine st (v:=.agg #[.int .u64 1,.int .i64 0]) (bl34 (ps:=[(0,.int .u64 1)]) (.cons .const Evp.nil) rfl) ?_
 refine g_yes (yk 39 false rfl rfl hc77) ?_
 refine st (v:=.bool (!((((e42.F.ID.N:Nat):Int) == 1) && ((e42.F.ID.P == 0) && true)))) (x_neqA eqg34 (.tmp rfl rfl) (.tmp rfl rfl) (fun d => eqs34 (d + 98) _ ((e42.F.ID.N:Nat):Int) 1 e42.F.ID.P 0)) ?_
 refine st (v:=.bool (!(decide (e42.F.ID = (GViewID.mk 1 0))))) (x_pick_f (.tmp rfl (cVb hc77)) (.tmp rfl (congrArg (fun z => Value.bool (!z)) (GViewID.beq_dec e42.F.ID (GViewID.mk 1 0))))) ?_
 refine c_nil (n_then ?_)
 have hc81:(decide (e42.F.ID = (GViewID.mk 1 0))) = true:=(decide_eq_true hi_e42)
 have hp81:e42.F.ID = (GViewID.mk 1 0):=of_decide_eq_true hc81
 refine c_cond_f (t:=false) (.tmp rfl (cVb (by rw [hc81]; rfl))) rfl ?_
 refine c_skip (n_then (c_seq (c_region (st (v:=.pointer (some ⟨mm21.g,0,none⟩)) (x_move (.tmp rfl (congrArg (fun z => Value.pointer (some ⟨z,0,none⟩)) hmg23.symm))) ?_))))
 refine st (v:=.agg #[.int .u64 1,.int .i64 0]) (bl34 (ps:=[(0,.int .u64 1)]) (.cons .const Evp.nil) rfl) ?_
 refine st (v:=.agg #[.int .u64 0,.int .i64 0,.int .i64 0,.slice none 0 0]) (bl37 (ps:=[]) Evp.nil rfl) ?_
 refine st_m (m_lit (n:=1) (ps:=[(0,.agg #[.int .u64 0,.int .i64 0,.int .i64 0,.slice none 0 0])]) (cs:=[.int .u64 0,.int .i64 0,.int .i64 0,.slice none 0 0]) Tryd.underlying40 inf37 (.cons (.tmp rfl rfl) Evp.nil) (by decide) (by decide) rfl rfl hs25) ?_
 rintro _ w83 ⟨g82,rfl,hs85⟩
 refine st (v:=.agg #[.int .u8 3,.int .i64 1,.int .u64 1,.int .i64 0,.int .u16 0,.int .u64 0,.int .i64 0,.int .u64 0,.int .i64 0,.slice (some ⟨g82,0,none⟩) 1 1,.int .u64 0,.slice none 0 0,.slice none 0 0,.int .u64 0,.int .u64 0]) (bl51 (ps:=[(0,.int .u8 3),(1,.int .i64 1),(2,.agg #[.int .u64 1,.int .i64 0]),(6,.slice (some ⟨g82,0,none⟩) 1 1)]) (.cons .const (.cons .const (.cons (.tmp rfl rfl) (.cons (.tmp rfl rfl) Evp.nil)))) rfl) ?_
 refine st (v:=.agg #[.int .u64 0,.int .i64 0,.int .i64 0,.slice none 0 0]) (bl37 (ps:=[]) Evp.nil rfl) ?_
 have hr91:kState.rep H12 (GState.mk (GViewID.mk 0 0) 0 []) [.int .u64 0,.int .i64 0,.int .i64 0,.slice none 0 0]:=⟨none,0,0,rfl,(show 0 < 18446744073709551616 from by omega),(show IB 0 from ⟨by omega,by omega⟩),(show IB 0 from ⟨by omega,by omega⟩),(Sl.nil _ _ none)⟩
 have hk92:kState.toKn.rows H12 [(GState.mk (GViewID.mk 0 0) 0 [])] [.int .u64 0,.int .i64 0,.int .i64 0,.slice none 0 0]:=Kn.rows_one hr91
 obtain ⟨H86,hle87,hs88,rd89,hb90⟩:=hs85.freezeObj
 have sp93:Sl kState H86 ((some ⟨g82,0,none⟩)) 1 1 [(GState.mk (GViewID.mk 0 0) 0 [])]:=⟨⟨_,rd89,Kn.rows_mono hk92 hle87⟩,rfl,Nat.le_refl _,by decide,by decide⟩
 have hs94:St H86 _ (MM.res 78 81 37 mm21 ++ (row 53 16 v14 (((MB.tick mm3.m 3 (GState.mk (GViewID.mk 0 0) 0 [])).2.1).length) cs17::L)):=St.upL [row 53 16 v14 (((MB.tick mm3.m 3 (GState.mk (GViewID.mk 0 0) 0 [])).2.1).length) cs17] hs88
 have hr95:kFrame.rep H86 (GFrame.mk 3 1 (GViewID.mk 1 0) 0 (GViewID.mk 0 0) (GViewID.mk 0 0) [(GState.mk (GViewID.mk 0 0) 0 [])] 0 [] [] 0 0) [.int .u8 3,.int .i64 1,.int .u64 1,.int .i64 0,.int .u16 0,.int .u64 0,.int .i64 0,.int .u64 0,.int .i64 0,.slice (some ⟨g82,0,none⟩) 1 1,.int .u64 0,.slice none 0 0,.slice none 0 0,.int .u64 0,.int .u64 0]:=⟨(some ⟨g82,0,none⟩),1,1,none,0,0,none,0,0,rfl,(show 3 < 256 from by omega),(show IB 1 from ⟨by omega,by omega⟩),(show 1 < 18446744073709551616 from by omega),(show IB 0 from ⟨by omega,by omega⟩),(show 0 < 65536 from by omega),(show 0 < 18446744073709551616 from by omega),(show IB 0 from ⟨by omega,by omega⟩),(show 0 < 18446744073709551616 from by omega),(show IB 0 from ⟨by omega,by omega⟩),sp93,(show 0 < 18446744073709551616 from by omega),(Sl.nil _ _ none),(Sl.nil _ _ none),(show 0 < 18446744073709551616 from by omega),(show 0 < 18446744073709551616 from by omega)⟩
 have hr96:kState.rep H86 (GState.mk (GViewID.mk 0 0) 0 []) [.int .u64 0,.int .i64 0,.int .i64 0,.slice none 0 0]:=⟨none,0,0,rfl,(show 0 < 18446744073709551616 from by omega),(show IB 0 from ⟨by omega,by omega⟩),(show IB 0 from ⟨by omega,by omega⟩),(Sl.nil _ _ none)⟩
 refine st_c cb17 .func (evs3 (.tmp rfl rfl) (.tmp rfl rfl) (.tmp rfl rfl)) (in_mm hs94 (x:=mm21) (MM.ok.mono mok22 hle87) (GFrame.mk 3 1 (GViewID.mk 1 0) 0 (GViewID.mk 0 0) (GViewID.mk 0 0) [(GState.mk (GViewID.mk 0 0) 0 [])] 0 [] [] 0 0) hr95 (GState.mk (GViewID.mk 0 0) 0 []) hr96 (hpr_of (by rw [hmm24,hmm5]; decide +kernel) (by decide)) (htab.mono (hle13.trans hle87))) ?_
 rintro e w97 ⟨H99,v101,cs104,iv106,mm108,hle100,rfl,ok102,hk105,hin107,mok109,hmg110,hmm111,hs98⟩
 refine ⟨_,rfl,?_⟩
 have hs113:=St.upL [row 53 16 v101 (((MB.inn mm21.m (GFrame.mk 3 1 (GViewID.mk 1 0) 0 (GViewID.mk 0 0) (GViewID.mk 0 0) [(GState.mk (GViewID.mk 0 0) 0 [])] 0 [] [] 0 0) (GState.mk (GViewID.mk 0 0) 0 [])).2.1).length) cs104] hs98
 have hs112:St H99 _ (row 53 16 v101 (((MB.inn mm21.m (GFrame.mk 3 1 (GViewID.mk 1 0) 0 (GViewID.mk 0 0) (GViewID.mk 0 0) [(GState.mk (GViewID.mk 0 0) 0 [])] 0 [] [] 0 0) (GState.mk (GViewID.mk 0 0) 0 [])).2.1).length) cs104::row 53 16 v14 (((MB.tick mm3.m 3 (GState.mk (GViewID.mk 0 0) 0 [])).2.1).length) cs17::MM.res 78 81 37 mm108 ++ (L)):=St.downL [row 53 16 v101 (((MB.inn mm21.m (GFrame.mk 3 1 (GViewID.mk 1 0) 0 (GViewID.mk 0 0) (GViewID.mk 0 0) [(GState.mk (GViewID.mk 0 0) 0 [])] 0 [] [] 0 0) (GState.mk (GViewID.mk 0 0) 0 [])).2.1).length) cs104,row 53 16 v14 (((MB.tick mm3.m 3 (GState.mk (GViewID.mk 0 0) 0 [])).2.1).length) cs17] hs113
 refine st (v:=.tuple #[v101,iv106,.int .i64 ((MB.inn mm21.m (GFrame.mk 3 1 (GViewID.mk 1 0) 0 (GViewID.mk 0 0) (GViewID.mk 0 0) [(GState.mk (GViewID.mk 0 0) 0 [])] 0 [] [] 0 0) (GState.mk (GViewID.mk 0 0) 0 [])).2.2.2)]) (x_move (.tmp rfl rfl)) ?_
 refine st (v:=v101) (x_extract (.tmp rfl rfl) (i:=0) rfl) ?_
 refine st (v:=iv106) (x_extract (.tmp rfl rfl) (i:=1) rfl) ?_
 refine st (v:=.int .i64 ((MB.inn mm21.m (GFrame.mk 3 1 (GViewID.mk 1 0) 0 (GViewID.mk 0 0) (GViewID.mk 0 0) [(GState.mk (GViewID.mk 0 0) 0 [])] 0 [] [] 0 0) (GState.mk (GViewID.mk 0 0) 0 [])).2.2.2)) (x_extract (.tmp rfl rfl) (i:=2) rfl) ?_
 refine st (v:=v101) (x_assign (.tmp rfl rfl)) ?_
 refine st (v:=iv106) (x_assign (.tmp rfl rfl)) ?_
 refine st (v:=.int .i64 ((MB.inn mm21.m (GFrame.mk 3 1 (GViewID.mk 1 0) 0 (GViewID.mk 0 0) (GViewID.mk 0 0) [(GState.mk (GViewID.mk 0 0) 0 [])] 0 [] [] 0 0) (GState.mk (GViewID.mk 0 0) 0 [])).2.2.2)) (x_assign (.tmp rfl rfl)) ?_
 refine c_nil (n_then (c_seq (c_region (st (v:=.int .i64 ((MB.inn mm21.m (GFrame.mk 3 1 (GViewID.mk 1 0) 0 (GViewID.mk 0 0) (GViewID.mk 0 0) [(GState.mk (GViewID.mk 0 0) 0 [])] 0 [] [] 0 0) (GState.mk (GViewID.mk 0 0) 0 [])).2.2.2)) (x_move (.tmp rfl rfl)) ?_))))
 refine st (v:=.bool (decide ((((MB.inn mm21.m (GFrame.mk 3 1 (GViewID.mk 1 0) 0 (GViewID.mk 0 0) (GViewID.mk 0 0) [(GState.mk (GViewID.mk 0 0) 0 [])] 0 [] [] 0 0) (GState.mk (GViewID.mk 0 0) 0 [])).2.2.2):Int) = 0))) (x_eql (k:=.i64) (a:=((MB.inn mm21.m (GFrame.mk 3 1 (GViewID.mk 1 0) 0 (GViewID.mk 0 0) (GViewID.mk 0 0) [(GState.mk (GViewID.mk 0 0) 0 [])] 0 [] [] 0 0) (GState.mk (GViewID.mk 0 0) 0 [])).2.2.2)) (b:=0) (.tmp rfl rfl) .const) ?_
 refine st (v:=.bool (decide ((((MB.inn mm21.m (GFrame.mk 3 1 (GViewID.mk 1 0) 0 (GViewID.mk 0 0) (GViewID.mk 0 0) [(GState.mk (GViewID.mk 0 0) 0 [])] 0 [] [] 0 0) (GState.mk (GViewID.mk 0 0) 0 [])).2.2.2):Int) = 0))) (x_move (.tmp rfl rfl)) ?_
 have hc114:(decide ((((MB.inn mm21.m (GFrame.mk 3 1 (GViewID.mk 1 0) 0 (GViewID.mk 0 0) (GViewID.mk 0 0) [(GState.mk (GViewID.mk 0 0) 0 [])] 0 [] [] 0 0) (GState.mk (GViewID.mk 0 0) 0 [])).2.2.2):Int) = 0)) = true:=(by rw [hmm24,hmm5]; decide +kernel)
 have hp114:(((MB.inn mm21.m (GFrame.mk 3 1 (GViewID.mk 1 0) 0 (GViewID.mk 0 0) (GViewID.mk 0 0) [(GState.mk (GViewID.mk 0 0) 0 [])] 0 [] [] 0 0) (GState.mk (GViewID.mk 0 0) 0 [])).2.2.2):Int) = 0:=of_decide_eq_true hc114
 refine g_yes (yk 61 true rfl rfl hc114) ?_
 refine st (v:=iv106) (x_move (.tmp rfl rfl)) ?_
 refine g_yes (yk 61 true rfl rfl hc114) ?_
 obtain ⟨yi115,gi116,ci117,hX118,rfl,hrd119,hrp120⟩:∃ y g cs,(MB.inn mm21.m (GFrame.mk 3 1 (GViewID.mk 1 0) 0 (GViewID.mk 0 0) (GViewID.mk 0 0) [(GState.mk (GViewID.mk 0 0) 0 [])] 0 [] [] 0 0) (GState.mk (GViewID.mk 0 0) 0 [])).2.2.1 = some y∧iv106 = .pointer (some ⟨g,0,none⟩)∧Rd H99 (some ⟨g,0,none⟩) cs∧kInstall.rep H99 y cs:=by rcases InstAt.cases hin107 with ⟨h9,_⟩ | h9; exact absurd h9 (by rw [hmm24,hmm5]; decide +kernel); exact h9
 obtain ⟨A126,n127,c128,rfl,b122,⟨b123,b124⟩,b125,hl129⟩:=hrp120
 have:=hl129.len; have:n127 * 48 ≤ 140737488351232:=hl129.bnd; have:=hl129.le
 have hat121:∀ {w:World} {L:List Res},St H99 w L → At w ⟨gi116,0,none⟩ [.int .u64 ((yi115.View.ID.N:Nat):Int),.int .i64 yi115.View.ID.P,.int .u16 ((yi115.View.Set:Nat):Int),.slice A126 n127 c128]:=fun h => hrd119.hat h
 have hvs:=el_eval2 (fun i:GInstall => i.View.Set) 3 hX118 (by rw [hmm24,hmm5]; decide +kernel)
 have hvs2:yi115.View.Set = 3:=hvs
 refine st (v:=.bool true) (x_neqP Tryd.underlying28 (.tmp rfl rfl) .const rfl) ?_
 refine st (v:=.bool true) (x_pick_t (.tmp rfl (cVb hc114)) (.tmp rfl rfl)) ?_
 refine st (v:=.bool true) (x_move (.tmp rfl rfl)) ?_
 refine g_yes (yl (dj:=65) (b:=true) rfl rfl rfl) ?_
 refine st (v:=.pointer (some ⟨gi116,0,none⟩)) (x_move (.tmp rfl rfl)) ?_
 refine g_yes (yl (dj:=65) (b:=true) rfl rfl rfl) ?_
 refine st (v:=.pointer (some ⟨gi116,0,none⟩)) (x_nilCheck (.tmp rfl rfl)) ?_
 refine g_yes (yl (dj:=65) (b:=true) rfl rfl rfl) ?_
 refine st (v:=.pointer (some ⟨gi116,0 + 0,none⟩)) (fa42_0 (.tmp rfl rfl)) ?_
 refine g_yes (yl (dj:=65) (b:=true) rfl rfl rfl) ?_
 refine st (v:=.pointer (some ⟨gi116,0 + 0 + 2,none⟩)) (fa39_1 (.tmp rfl rfl)) ?_
 refine g_yes (yl (dj:=65) (b:=true) rfl rfl rfl) ?_
 refine st (v:=.int .u16 ((yi115.View.Set:Nat):Int)) (ld31 (.tmp rfl rfl) ((hat121 hs112).cell 2 rfl)) ?_
 refine g_yes (yl (dj:=65) (b:=true) rfl rfl rfl) ?_
 refine st (v:=.bool (decide ((((yi115.View.Set:Nat):Int):Int) = 3))) (x_eql (k:=.u16) (a:=((yi115.View.Set:Nat):Int)) (b:=3) (.tmp rfl rfl) .const) ?_
 refine st (v:=.bool (decide ((((yi115.View.Set:Nat):Int):Int) = 3))) (x_pick_t (.tmp rfl rfl) (.tmp rfl rfl)) ?_
 refine st (v:=.bool (decide ((((yi115.View.Set:Nat):Int):Int) = 3))) (x_move (.tmp rfl rfl)) ?_
 have hc130:(decide ((((yi115.View.Set:Nat):Int):Int) = 3)) = true:=(decide_eq_true (by omega))
 have hp130:(((yi115.View.Set:Nat):Int):Int) = 3:=of_decide_eq_true hc130
 refine g_yes (yk 73 true rfl rfl hc130) ?_
 refine st (v:=v101) (x_move (.tmp rfl rfl)) ?_
 refine g_yes (yk 73 true rfl rfl hc130) ?_
 obtain ⟨A131,c132,hv133,hc134⟩:=ok102.slice
 refine st (v:=.int .i64 ((((MB.inn mm21.m (GFrame.mk 3 1 (GViewID.mk 1 0) 0 (GViewID.mk 0 0) (GViewID.mk 0 0) [(GState.mk (GViewID.mk 0 0) 0 [])] 0 [] [] 0 0) (GState.mk (GViewID.mk 0 0) 0 [])).2.1).length:Nat):Int)) (x_len (n:=((MB.inn mm21.m (GFrame.mk 3 1 (GViewID.mk 1 0) 0 (GViewID.mk 0 0) (GViewID.mk 0 0) [(GState.mk (GViewID.mk 0 0) 0 [])] 0 [] [] 0 0) (GState.mk (GViewID.mk 0 0) 0 [])).2.1).length) Tryd.underlying27 (.tmp rfl hv133)) ?_
 refine g_yes (yk 73 true rfl rfl hc130) ?_
 refine st (v:=.bool (decide ((((((MB.inn mm21.m (GFrame.mk 3 1 (GViewID.mk 1 0) 0 (GViewID.mk 0 0) (GViewID.mk 0 0) [(GState.mk (GViewID.mk 0 0) 0 [])] 0 [] [] 0 0) (GState.mk (GViewID.mk 0 0) 0 [])).2.1).length:Nat):Int):Int) = 1))) (x_eql (k:=.i64) (a:=((((MB.inn mm21.m (GFrame.mk 3 1 (GViewID.mk 1 0) 0 (GViewID.mk 0 0) (GViewID.mk 0 0) [(GState.mk (GViewID.mk 0 0) 0 [])] 0 [] [] 0 0) (GState.mk (GViewID.mk 0 0) 0 [])).2.1).length:Nat):Int)) (b:=1) (.tmp rfl rfl) .const) ?_
 refine st (v:=.bool (decide ((((((MB.inn mm21.m (GFrame.mk 3 1 (GViewID.mk 1 0) 0 (GViewID.mk 0 0) (GViewID.mk 0 0) [(GState.mk (GViewID.mk 0 0) 0 [])] 0 [] [] 0 0) (GState.mk (GViewID.mk 0 0) 0 [])).2.1).length:Nat):Int):Int) = 1))) (x_pick_t (.tmp rfl (cVb hc130)) (.tmp rfl rfl)) ?_
 refine st (v:=.bool (decide ((((((MB.inn mm21.m (GFrame.mk 3 1 (GViewID.mk 1 0) 0 (GViewID.mk 0 0) (GViewID.mk 0 0) [(GState.mk (GViewID.mk 0 0) 0 [])] 0 [] [] 0 0) (GState.mk (GViewID.mk 0 0) 0 [])).2.1).length:Nat):Int):Int) = 1))) (x_move (.tmp rfl rfl)) ?_
 have hc135:(decide ((((((MB.inn mm21.m (GFrame.mk 3 1 (GViewID.mk 1 0) 0 (GViewID.mk 0 0) (GViewID.mk 0 0) [(GState.mk (GViewID.mk 0 0) 0 [])] 0 [] [] 0 0) (GState.mk (GViewID.mk 0 0) 0 [])).2.1).length:Nat):Int):Int) = 1)) = true:=(by rw [hmm24,hmm5]; decide +kernel)
 have hp135:(((((MB.inn mm21.m (GFrame.mk 3 1 (GViewID.mk 1 0) 0 (GViewID.mk 0 0) (GViewID.mk 0 0) [(GState.mk (GViewID.mk 0 0) 0 [])] 0 [] [] 0 0) (GState.mk (GViewID.mk 0 0) 0 [])).2.1).length:Nat):Int):Int) = 1:=of_decide_eq_true hc135
 refine g_yes (yk 78 true rfl rfl hc135) ?_
 refine st (v:=v101) (x_move (.tmp rfl rfl)) ?_
 refine g_yes (yk 78 true rfl rfl hc135) ?_
 obtain ⟨g136,c137,hv138⟩:=ok102.pos (by omega)
 obtain ⟨e139,cs140,hx141,hr142,hsub143⟩:=Kn.rows_get (i:=0) hk105 (by omega)
 obtain ⟨A159,n160,c161,A164,n165,c166,A168,n169,c170,rfl,⟨b144,b145⟩,b146,⟨b147,b148⟩,b149,⟨b150,b151⟩,b152,b153,⟨b154,b155⟩,b156,⟨b157,b158⟩,hl162,b163,hl167,hl171,b172,b173⟩:=hr142
 have:=hl162.len; have:n160 * 48 ≤ 140737488351232:=hl162.bnd; have:=hl162.le
 have:=hl167.len; have:n165 * 24 ≤ 140737488351232:=hl167.bnd; have:=hl167.le
 have:=hl171.len; have:n169 * 32 ≤ 140737488351232:=hl171.bnd; have:=hl171.le
 have hk_e139:=el_eval (fun o:GOut => o.F.Kind) 5 hx141 (by rw [hmm24,hmm5]; decide +kernel)
 have hk2_e139:e139.F.Kind = 5:=hk_e139
 refine st (v:=.pointer (some ⟨g136,(0 * 16),none⟩)) (ixo27 (.tmp rfl hv138) rfl (i:=0) .const (by omega) (by omega) (by omega)) ?_
 refine g_yes (yk 78 true rfl rfl hc135) ?_
 refine st (v:=.pointer (some ⟨g136,(0 * 16) + 1,none⟩)) (fa53_1 (.tmp rfl rfl)) ?_
 refine g_yes (yk 78 true rfl rfl hc135) ?_
 refine st (v:=.pointer (some ⟨g136,(0 * 16) + 1 + 0,none⟩)) (fa51_0 (.tmp rfl rfl)) ?_
 refine g_yes (yk 78 true rfl rfl hc135) ?_
 refine st (v:=.int .u8 ((e139.F.Kind:Nat):Int)) (ld5 (.tmp rfl rfl) ((hs112.rowAt 0 rfl hv138 (0 * 16) hsub143).cell 1 rfl)) ?_
 refine g_yes (yk 78 true rfl rfl hc135) ?_
 refine st (v:=.bool (decide ((((e139.F.Kind:Nat):Int):Int) = 5))) (x_eql (k:=.u8) (a:=((e139.F.Kind:Nat):Int)) (b:=5) (.tmp rfl rfl) .const) ?_
 refine st (v:=.bool (decide ((((e139.F.Kind:Nat):Int):Int) = 5))) (x_pick_t (.tmp rfl (cVb hc135)) (.tmp rfl rfl)) ?_
 refine st (v:=.bool (decide ((((e139.F.Kind:Nat):Int):Int) = 5))) (x_move (.tmp rfl rfl)) ?_
 have hc174:(decide ((((e139.F.Kind:Nat):Int):Int) = 5)) = true:=(decide_eq_true (by omega))
 have hp174:(((e139.F.Kind:Nat):Int):Int) = 5:=of_decide_eq_true hc174
 refine g_yes (yk 86 true rfl rfl hc174) ?_
 refine st (v:=.pointer (some ⟨mm108.g,0,none⟩)) (x_move (.tmp rfl ((congrArg (fun z => Value.pointer (some ⟨z,0,none⟩)) hmg23.symm).trans (congrArg (fun z => Value.pointer (some ⟨z,0,none⟩)) hmg110.symm)))) ?_
 refine g_yes (yk 86 true rfl rfl hc174) ?_
 have hs175:St H99 _ (MM.res 78 81 37 mm108 ++ (row 53 16 v101 (((MB.inn mm21.m (GFrame.mk 3 1 (GViewID.mk 1 0) 0 (GViewID.mk 0 0) (GViewID.mk 0 0) [(GState.mk (GViewID.mk 0 0) 0 [])] 0 [] [] 0 0) (GState.mk (GViewID.mk 0 0) 0 [])).2.1).length) cs104::row 53 16 v14 (((MB.tick mm3.m 3 (GState.mk (GViewID.mk 0 0) 0 [])).2.1).length) cs17::L)):=St.upL [row 53 16 v101 (((MB.inn mm21.m (GFrame.mk 3 1 (GViewID.mk 1 0) 0 (GViewID.mk 0 0) (GViewID.mk 0 0) [(GState.mk (GViewID.mk 0 0) 0 [])] 0 [] [] 0 0) (GState.mk (GViewID.mk 0 0) 0 [])).2.1).length) cs104,row 53 16 v14 (((MB.tick mm3.m 3 (GState.mk (GViewID.mk 0 0) 0 [])).2.1).length) cs17] hs112
 refine st_c cb15 .func (evs1 (.tmp rfl rfl)) (opn_mm hs175 (x:=mm108) mok109 ) ?_
 rintro e w176 ⟨rfl,hs177⟩
 refine ⟨_,rfl,?_⟩
 have hs178:St H99 _ (row 53 16 v101 (((MB.inn mm21.m (GFrame.mk 3 1 (GViewID.mk 1 0) 0 (GViewID.mk 0 0) (GViewID.mk 0 0) [(GState.mk (GViewID.mk 0 0) 0 [])] 0 [] [] 0 0) (GState.mk (GViewID.mk 0 0) 0 [])).2.1).length) cs104::row 53 16 v14 (((MB.tick mm3.m 3 (GState.mk (GViewID.mk 0 0) 0 [])).2.1).length) cs17::MM.res 78 81 37 mm108 ++ (L)):=St.downL [row 53 16 v101 (((MB.inn mm21.m (GFrame.mk 3 1 (GViewID.mk 1 0) 0 (GViewID.mk 0 0) (GViewID.mk 0 0) [(GState.mk (GViewID.mk 0 0) 0 [])] 0 [] [] 0 0) (GState.mk (GViewID.mk 0 0) 0 [])).2.1).length) cs104,row 53 16 v14 (((MB.tick mm3.m 3 (GState.mk (GViewID.mk 0 0) 0 [])).2.1).length) cs17] hs177
 refine st (v:=.bool mm108.m.opn) (x_pick_t (.tmp rfl (cVb hc174)) (.tmp rfl rfl)) ?_
 refine st (v:=.bool mm108.m.opn) (x_assign (.tmp rfl rfl)) ?_
 refine c_nil (n_then (c_ret (leave_ret (res_one (v:=.bool mm108.m.opn) rfl (.mk rfl rfl)) ?_)))
 have hyes:mm108.m.opn = true:=(by rw [hmm111,hmm24,hmm5]; decide +kernel)
 rw [hyes]
 exact ⟨rfl,((St.dropL [] hs178.drop.drop).weaken ((hle13.trans hle87).trans hle100))⟩
end Go.Proofs.YtcccaihjgoaehaaDoor

set_option linter.unusedVariables false
set_option linter.unusedSimpArgs false
namespace Go.Proofs.YtcccaihjgoaehaaDoor
open Go Go.FM Go.Proofs
attribute [local irreducible] wpList wpQuiet wpS Code.wp Calls
set_option maxHeartbeats 8000000 in
theorem strangers_law {H:Hp} {w:World} {L:List Res} (hs:St H w (L)) (n:Nat) (b_n:n < 256) (z:Nat) (b_z:z < 256) (f:GFrame) {k_f:List Value} (h_f:kFrame.rep H f k_f) (htab:Tab H):Calls Tryd.prog 9 #[.int .u8 ((n:Nat):Int),.int .u8 ((z:Nat):Int),.agg k_f.toArray] w (fun e w' => e = .returned (.bool true)∧St H w' (L)):=by
 obtain ⟨A14,n15,c16,A19,n20,c21,A23,n24,c25,rfl,b1,⟨b2,b3⟩,b4,⟨b5,b6⟩,b7,b8,⟨b9,b10⟩,b11,⟨b12,b13⟩,hl17,b18,hl22,hl26,b27,b28⟩:=h_f
 have:=hl17.len; have:n15 * 48 ≤ 140737488351232:=hl17.bnd; have:=hl17.le
 have:=hl22.len; have:n20 * 24 ≤ 140737488351232:=hl22.bnd; have:=hl22.le
 have:=hl26.len; have:n24 * 32 ≤ 140737488351232:=hl26.bnd; have:=hl26.le
 refine enter (args:=[.int .u8 ((n:Nat):Int),.int .u8 ((z:Nat):Int),.agg #[.int .u8 ((f.Kind:Nat):Int),.int .i64 f.From,.int .u64 ((f.ID.N:Nat):Int),.int .i64 f.ID.P,.int .u16 ((f.Set:Nat):Int),.int .u64 ((f.Cur.N:Nat):Int),.int .i64 f.Cur.P,.int .u64 ((f.Prom.N:Nat):Int),.int .i64 f.Prom.P,.slice A14 n15 c16,.int .u64 ((f.Base:Nat):Int),.slice A19 n20 c21,.slice A23 n24 c25,.int .u64 ((f.Ack:Nat):Int),.int .u64 ((f.Safe:Nat):Int)]]) (N:=110) Tryd.func9 rfl rfl rfl ?_
 refine c_seq (c_region (st_m (m_box (cs:=[.int .u8 ((f.Kind:Nat):Int),.int .i64 f.From,.int .u64 ((f.ID.N:Nat):Int),.int .i64 f.ID.P,.int .u16 ((f.Set:Nat):Int),.int .u64 ((f.Cur.N:Nat):Int),.int .i64 f.Cur.P,.int .u64 ((f.Prom.N:Nat):Int),.int .i64 f.Prom.P,.slice A14 n15 c16,.int .u64 ((f.Base:Nat):Int),.slice A19 n20 c21,.slice A23 n24 c25,.int .u64 ((f.Ack:Nat):Int),.int .u64 ((f.Safe:Nat):Int)]) hs (v:=.agg #[.int .u8 ((f.Kind:Nat):Int),.int .i64 f.From,.int .u64 ((f.ID.N:Nat):Int),.int .i64 f.ID.P,.int .u16 ((f.Set:Nat):Int),.int .u64 ((f.Cur.N:Nat):Int),.int .i64 f.Cur.P,.int .u64 ((f.Prom.N:Nat):Int),.int .i64 f.Prom.P,.slice A14 n15 c16,.int .u64 ((f.Base:Nat):Int),.slice A19 n20 c21,.slice A23 n24 c25,.int .u64 ((f.Ack:Nat):Int),.int .u64 ((f.Safe:Nat):Int)]) (.tmp rfl rfl) rfl) ?_))
 rintro _ w30 ⟨g29,rfl,hs32⟩
 refine st (v:=.bool false) (x_assign .const) ?_
 refine c_nil (n_then (c_seq (c_seq (c_region (st_c cb10 .func (evs0 ) (awake_spec hs32  htab) ?_)))))
 rintro e w33 ⟨rfl,hs34⟩
 refine ⟨_,rfl,?_⟩
 refine st (v:=.bool false) (x_not (b:=true) (.tmp rfl rfl)) ?_
 refine st (v:=.bool false) (x_move (.tmp rfl rfl)) ?_
 refine g_yes (yl (dj:=16) (b:=false) rfl rfl rfl) ?_
 refine st (v:=.agg #[.int .u8 ((f.Kind:Nat):Int),.int .i64 f.From,.int .u64 ((f.ID.N:Nat):Int),.int .i64 f.ID.P,.int .u16 ((f.Set:Nat):Int),.int .u64 ((f.Cur.N:Nat):Int),.int .i64 f.Cur.P,.int .u64 ((f.Prom.N:Nat):Int),.int .i64 f.Prom.P,.slice A14 n15 c16,.int .u64 ((f.Base:Nat):Int),.slice A19 n20 c21,.slice A23 n24 c25,.int .u64 ((f.Ack:Nat):Int),.int .u64 ((f.Safe:Nat):Int)]) (ld51 (cs:=[.int .u8 ((f.Kind:Nat):Int),.int .i64 f.From,.int .u64 ((f.ID.N:Nat):Int),.int .i64 f.ID.P,.int .u16 ((f.Set:Nat):Int),.int .u64 ((f.Cur.N:Nat):Int),.int .i64 f.Cur.P,.int .u64 ((f.Prom.N:Nat):Int),.int .i64 f.Prom.P,.slice A14 n15 c16,.int .u64 ((f.Base:Nat):Int),.slice A19 n20 c21,.slice A23 n24 c25,.int .u64 ((f.Ack:Nat):Int),.int .u64 ((f.Safe:Nat):Int)]) (.tmp rfl rfl) (hs34.at_ 0 rfl (0) rfl) rfl) ?_
 refine g_yes (yl (dj:=16) (b:=false) rfl rfl rfl) ?_
 have hr35:kFrame.rep H f [.int .u8 ((f.Kind:Nat):Int),.int .i64 f.From,.int .u64 ((f.ID.N:Nat):Int),.int .i64 f.ID.P,.int .u16 ((f.Set:Nat):Int),.int .u64 ((f.Cur.N:Nat):Int),.int .i64 f.Cur.P,.int .u64 ((f.Prom.N:Nat):Int),.int .i64 f.Prom.P,.slice A14 n15 c16,.int .u64 ((f.Base:Nat):Int),.slice A19 n20 c21,.slice A23 n24 c25,.int .u64 ((f.Ack:Nat):Int),.int .u64 ((f.Safe:Nat):Int)]:=⟨A14,n15,c16,A19,n20,c21,A23,n24,c25,rfl,b1,⟨b2,b3⟩,b4,⟨b5,b6⟩,b7,b8,⟨b9,b10⟩,b11,⟨b12,b13⟩,hl17,b18,hl22,hl26,b27,b28⟩
 refine st_c cb23 .func (evs1 (.tmp rfl rfl)) (great_any hs34 f hr35 ) ?_
 rintro e w36 ⟨bz38,rfl,hs37⟩
 refine ⟨_,rfl,?_⟩
 refine st (v:=.bool bz38) (x_pick_f (.tmp rfl rfl) (.tmp rfl rfl)) ?_
 refine c_nil (n_then ?_)
 rcases Bool.eq_false_or_eq_true bz38 with hc39 | hc39
 refine c_cond_t (t:=true) (.tmp rfl (cVb hc39)) rfl ?_
 refine c_seq (c_region (st_c cb10 .func (evs0 ) (awake_spec hs37  htab) ?_))
 rintro e w40 ⟨rfl,hs41⟩
 refine ⟨_,rfl,?_⟩
 refine st (v:=.bool true) (x_assign (.tmp rfl rfl)) ?_
 refine c_nil (n_then (c_ret (r_then (leave_ret (res_one (v:=.bool true) rfl (.mk rfl rfl)) ?_))))
 exact ⟨rfl,hs41.drop⟩
 refine c_cond_f (t:=false) (.tmp rfl (cVb hc39)) rfl ?_
 refine c_skip (n_then (c_seq (c_region (st (v:=.int .u8 ((n:Nat):Int)) (x_move (.tmp rfl rfl)) ?_))))
 refine st (v:=.int .i64 ((n:Nat):Int)) (x_conv (k:=.u8) (a:=((n:Nat):Int)) Tryd.underlying5 Tryd.underlying3 (.tmp rfl rfl) (w64 (by omega) (by omega))) ?_
 refine st (v:=.int .i64 (((n % 16):Nat):Int)) (x_remN (k:=.i64) (m:=n) (n:=16) (.tmp rfl rfl) .const (by omega)) ?_
 refine st (v:=.int .i64 (((1 + (n % 16)):Nat):Int)) (x_add (k:=.i64) (a:=1) (b:=(((n % 16):Nat):Int)) .const (.tmp rfl rfl) ((w64 (by omega) (by omega)).trans (by omega))) ?_
 refine st (v:=.int .i64 (((1 + (n % 16)):Nat):Int)) (x_assign (.tmp rfl rfl)) ?_
 refine c_nil (n_then (c_seq (c_region (st (v:=.int .u8 ((z:Nat):Int)) (x_move (.tmp rfl rfl)) ?_))))
 refine st (v:=.int .i64 ((z:Nat):Int)) (x_conv (k:=.u8) (a:=((z:Nat):Int)) Tryd.underlying5 Tryd.underlying3 (.tmp rfl rfl) (w64 (by omega) (by omega))) ?_
 refine st (v:=.int .i64 (((1 + (n % 16)):Nat):Int)) (x_move (.tmp rfl rfl)) ?_
 have:z % (1 + (n % 16)) < (1 + (n % 16)):=Nat.mod_lt _ (by omega)
 refine st (v:=.int .i64 (((z % (1 + (n % 16))):Nat):Int)) (x_remN (k:=.i64) (m:=z) (n:=(1 + (n % 16))) (.tmp rfl rfl) (.tmp rfl rfl) (by omega)) ?_
 refine st (v:=.int .i64 (((z % (1 + (n % 16))):Nat):Int)) (x_assign (.tmp rfl rfl)) ?_
 refine c_nil (n_then (c_seq (c_region (st (v:=.int .i64 (((1 + (n % 16)):Nat):Int)) (x_move (.tmp rfl rfl)) ?_))))
 refine st (v:=.int .i64 (((z % (1 + (n % 16))):Nat):Int)) (x_move (.tmp rfl rfl)) ?_
 refine st_c cb11 .func (evs2 (.tmp rfl rfl) (.tmp rfl rfl)) (new_mm hs37 (1 + (n % 16)) (z % (1 + (n % 16))) (by omega) (by omega) (by omega)) ?_
 rintro e w42 ⟨mm44,rfl,mok45,hmm46,hs43⟩
 refine ⟨_,rfl,?_⟩
 have hs48:St H _ (obj g29 51 [.int .u8 ((f.Kind:Nat):Int),.int .i64 f.From,.int .u64 ((f.ID.N:Nat):Int),.int .i64 f.ID.P,.int .u16 ((f.Set:Nat):Int),.int .u64 ((f.Cur.N:Nat):Int),.int .i64 f.Cur.P,.int .u64 ((f.Prom.N:Nat):Int),.int .i64 f.Prom.P,.slice A14 n15 c16,.int .u64 ((f.Base:Nat):Int),.slice A19 n20 c21,.slice A23 n24 c25,.int .u64 ((f.Ack:Nat):Int),.int .u64 ((f.Safe:Nat):Int)]::MM.res 78 81 37 mm44 ++ (L)):=St.downL [obj g29 51 [.int .u8 ((f.Kind:Nat):Int),.int .i64 f.From,.int .u64 ((f.ID.N:Nat):Int),.int .i64 f.ID.P,.int .u16 ((f.Set:Nat):Int),.int .u64 ((f.Cur.N:Nat):Int),.int .i64 f.Cur.P,.int .u64 ((f.Prom.N:Nat):Int),.int .i64 f.Prom.P,.slice A14 n15 c16,.int .u64 ((f.Base:Nat):Int),.slice A19 n20 c21,.slice A23 n24 c25,.int .u64 ((f.Ack:Nat):Int),.int .u64 ((f.Safe:Nat):Int)]] hs43
 refine st (v:=.tuple #[.pointer (some ⟨mm44.g,0,none⟩),.int .i64 0]) (x_move (.tmp rfl rfl)) ?_
 refine st (v:=.pointer (some ⟨mm44.g,0,none⟩)) (x_extract (.tmp rfl rfl) (i:=0) rfl) ?_
 refine st (v:=.int .i64 0) (x_extract (.tmp rfl rfl) (i:=1) rfl) ?_
 refine st (v:=.pointer (some ⟨mm44.g,0,none⟩)) (x_assign (.tmp rfl rfl)) ?_
 refine st (v:=.int .i64 0) (x_assign (.tmp rfl rfl)) ?_
 refine c_nil (n_then (c_seq (c_seq (c_region (st (v:=.int .i64 0) (x_move (.tmp rfl rfl)) ?_)))))
 refine st (v:=.bool false) (x_neq (k:=.i64) (a:=0) (b:=0) (.tmp rfl rfl) .const) ?_
 refine c_nil (n_then (c_cond_f (t:=false) (.tmp rfl rfl) rfl ?_))
 refine c_skip (n_then (c_seq (c_region (st (v:=.pointer (some ⟨mm44.g,0,none⟩)) (x_move (.tmp rfl rfl)) ?_))))
 refine st (v:=.agg #[.int .u8 ((f.Kind:Nat):Int),.int .i64 f.From,.int .u64 ((f.ID.N:Nat):Int),.int .i64 f.ID.P,.int .u16 ((f.Set:Nat):Int),.int .u64 ((f.Cur.N:Nat):Int),.int .i64 f.Cur.P,.int .u64 ((f.Prom.N:Nat):Int),.int .i64 f.Prom.P,.slice A14 n15 c16,.int .u64 ((f.Base:Nat):Int),.slice A19 n20 c21,.slice A23 n24 c25,.int .u64 ((f.Ack:Nat):Int),.int .u64 ((f.Safe:Nat):Int)]) (ld51 (cs:=[.int .u8 ((f.Kind:Nat):Int),.int .i64 f.From,.int .u64 ((f.ID.N:Nat):Int),.int .i64 f.ID.P,.int .u16 ((f.Set:Nat):Int),.int .u64 ((f.Cur.N:Nat):Int),.int .i64 f.Cur.P,.int .u64 ((f.Prom.N:Nat):Int),.int .i64 f.Prom.P,.slice A14 n15 c16,.int .u64 ((f.Base:Nat):Int),.slice A19 n20 c21,.slice A23 n24 c25,.int .u64 ((f.Ack:Nat):Int),.int .u64 ((f.Safe:Nat):Int)]) (.tmp rfl rfl) (hs48.at_ 0 rfl (0) rfl) rfl) ?_
 refine st (v:=.agg #[.int .u64 0,.int .i64 0,.int .i64 0,.slice none 0 0]) (bl37 (ps:=[]) Evp.nil rfl) ?_
 have hs49:St H _ (MM.res 78 81 37 mm44 ++ (obj g29 51 [.int .u8 ((f.Kind:Nat):Int),.int .i64 f.From,.int .u64 ((f.ID.N:Nat):Int),.int .i64 f.ID.P,.int .u16 ((f.Set:Nat):Int),.int .u64 ((f.Cur.N:Nat):Int),.int .i64 f.Cur.P,.int .u64 ((f.Prom.N:Nat):Int),.int .i64 f.Prom.P,.slice A14 n15 c16,.int .u64 ((f.Base:Nat):Int),.slice A19 n20 c21,.slice A23 n24 c25,.int .u64 ((f.Ack:Nat):Int),.int .u64 ((f.Safe:Nat):Int)]::L)):=St.upL [obj g29 51 [.int .u8 ((f.Kind:Nat):Int),.int .i64 f.From,.int .u64 ((f.ID.N:Nat):Int),.int .i64 f.ID.P,.int .u16 ((f.Set:Nat):Int),.int .u64 ((f.Cur.N:Nat):Int),.int .i64 f.Cur.P,.int .u64 ((f.Prom.N:Nat):Int),.int .i64 f.Prom.P,.slice A14 n15 c16,.int .u64 ((f.Base:Nat):Int),.slice A19 n20 c21,.slice A23 n24 c25,.int .u64 ((f.Ack:Nat):Int),.int .u64 ((f.Safe:Nat):Int)]] hs48
 have hr50:kFrame.rep H f [.int .u8 ((f.Kind:Nat):Int),.int .i64 f.From,.int .u64 ((f.ID.N:Nat):Int),.int .i64 f.ID.P,.int .u16 ((f.Set:Nat):Int),.int .u64 ((f.Cur.N:Nat):Int),.int .i64 f.Cur.P,.int .u64 ((f.Prom.N:Nat):Int),.int .i64 f.Prom.P,.slice A14 n15 c16,.int .u64 ((f.Base:Nat):Int),.slice A19 n20 c21,.slice A23 n24 c25,.int .u64 ((f.Ack:Nat):Int),.int .u64 ((f.Safe:Nat):Int)]:=⟨A14,n15,c16,A19,n20,c21,A23,n24,c25,rfl,b1,⟨b2,b3⟩,b4,⟨b5,b6⟩,b7,b8,⟨b9,b10⟩,b11,⟨b12,b13⟩,hl17,b18,hl22,hl26,b27,b28⟩
 have hr51:kState.rep H (GState.mk (GViewID.mk 0 0) 0 []) [.int .u64 0,.int .i64 0,.int .i64 0,.slice none 0 0]:=⟨none,0,0,rfl,(show 0 < 18446744073709551616 from by omega),(show IB 0 from ⟨by omega,by omega⟩),(show IB 0 from ⟨by omega,by omega⟩),(Sl.nil _ _ none)⟩
 refine st_c cb17 .func (evs3 (.tmp rfl rfl) (.tmp rfl rfl) (.tmp rfl rfl)) (in_mm hs49 (x:=mm44) mok45 f hr50 (GState.mk (GViewID.mk 0 0) 0 []) hr51 (fun p hp => by rw [hmm46] at hp; cases hp) htab) ?_
 rintro e w52 ⟨H54,v56,cs59,iv61,mm63,hle55,rfl,ok57,hk60,hin62,mok64,hmg65,hmm66,hs53⟩
 refine ⟨_,rfl,?_⟩
 have hs68:=St.upL [row 53 16 v56 (((MB.inn mm44.m f (GState.mk (GViewID.mk 0 0) 0 [])).2.1).length) cs59] hs53
 have hs67:St H54 _ (row 53 16 v56 (((MB.inn mm44.m f (GState.mk (GViewID.mk 0 0) 0 [])).2.1).length) cs59::obj g29 51 [.int .u8 ((f.Kind:Nat):Int),.int .i64 f.From,.int .u64 ((f.ID.N:Nat):Int),.int .i64 f.ID.P,.int .u16 ((f.Set:Nat):Int),.int .u64 ((f.Cur.N:Nat):Int),.int .i64 f.Cur.P,.int .u64 ((f.Prom.N:Nat):Int),.int .i64 f.Prom.P,.slice A14 n15 c16,.int .u64 ((f.Base:Nat):Int),.slice A19 n20 c21,.slice A23 n24 c25,.int .u64 ((f.Ack:Nat):Int),.int .u64 ((f.Safe:Nat):Int)]::MM.res 78 81 37 mm63 ++ (L)):=St.downL [row 53 16 v56 (((MB.inn mm44.m f (GState.mk (GViewID.mk 0 0) 0 [])).2.1).length) cs59,obj g29 51 [.int .u8 ((f.Kind:Nat):Int),.int .i64 f.From,.int .u64 ((f.ID.N:Nat):Int),.int .i64 f.ID.P,.int .u16 ((f.Set:Nat):Int),.int .u64 ((f.Cur.N:Nat):Int),.int .i64 f.Cur.P,.int .u64 ((f.Prom.N:Nat):Int),.int .i64 f.Prom.P,.slice A14 n15 c16,.int .u64 ((f.Base:Nat):Int),.slice A19 n20 c21,.slice A23 n24 c25,.int .u64 ((f.Ack:Nat):Int),.int .u64 ((f.Safe:Nat):Int)]] hs68
 refine st (v:=.tuple #[v56,iv61,.int .i64 ((MB.inn mm44.m f (GState.mk (GViewID.mk 0 0) 0 [])).2.2.2)]) (x_move (.tmp rfl rfl)) ?_
 refine st (v:=v56) (x_extract (.tmp rfl rfl) (i:=0) rfl) ?_
 refine st (v:=iv61) (x_extract (.tmp rfl rfl) (i:=1) rfl) ?_
 refine st (v:=.int .i64 ((MB.inn mm44.m f (GState.mk (GViewID.mk 0 0) 0 [])).2.2.2)) (x_extract (.tmp rfl rfl) (i:=2) rfl) ?_
 refine st (v:=v56) (x_assign (.tmp rfl rfl)) ?_
 refine st (v:=iv61) (x_assign (.tmp rfl rfl)) ?_
 refine st (v:=.int .i64 ((MB.inn mm44.m f (GState.mk (GViewID.mk 0 0) 0 [])).2.2.2)) (x_assign (.tmp rfl rfl)) ?_
 refine c_nil (n_then (c_seq (c_seq (c_region (st (v:=.pointer (some ⟨g29,0 + 1,none⟩)) (fa51_1 (.tmp rfl rfl)) ?_)))))
 refine st (v:=.int .i64 f.From) (ld3 (.tmp rfl rfl) (hs67.cell 1 rfl (0 + 1) rfl)) ?_
 refine st (v:=.bool (decide ((f.From:Int) < 0))) (x_lss (k:=.i64) (a:=f.From) (b:=0) (.tmp rfl rfl) .const) ?_
 refine st (v:=.bool (decide ((f.From:Int) < 0))) (x_move (.tmp rfl rfl)) ?_
 refine jw 5 (fun ρ w => ρ 53 = .bool ((decide ((f.From:Int) < 0)) || (decide (((((1 + (n % 16)):Nat):Int):Int) ≤ f.From)))∧ρ 5 = .pointer (some ⟨g29,0,none⟩)∧ρ 8 = .int .i64 (((z % (1 + (n % 16))):Nat):Int)∧ρ 9 = .pointer (some ⟨mm63.g,0,none⟩)∧ρ 11 = v56∧ρ 12 = iv61∧ρ 13 = .int .i64 ((MB.inn mm44.m f (GState.mk (GViewID.mk 0 0) 0 [])).2.2.2)∧St H54 w (row 53 16 v56 (((MB.inn mm44.m f (GState.mk (GViewID.mk 0 0) 0 [])).2.1).length) cs59::obj g29 51 [.int .u8 ((f.Kind:Nat):Int),.int .i64 f.From,.int .u64 ((f.ID.N:Nat):Int),.int .i64 f.ID.P,.int .u16 ((f.Set:Nat):Int),.int .u64 ((f.Cur.N:Nat):Int),.int .i64 f.Cur.P,.int .u64 ((f.Prom.N:Nat):Int),.int .i64 f.Prom.P,.slice A14 n15 c16,.int .u64 ((f.Base:Nat):Int),.slice A19 n20 c21,.slice A23 n24 c25,.int .u64 ((f.Ack:Nat):Int),.int .u64 ((f.Safe:Nat):Int)]::MM.res 78 81 37 mm63 ++ (L))) ?_ ?_
 rcases Bool.eq_false_or_eq_true (decide ((f.From:Int) < 0)) with hc69 | hc69
 have hp69:(f.From:Int) < 0:=of_decide_eq_true hc69
 refine g_no (yk 48 true rfl rfl hc69) rfl ?_
 refine g_no (yk 48 true rfl rfl hc69) rfl ?_
 refine g_no (yk 48 true rfl rfl hc69) rfl ?_
 refine g_no (yk 48 true rfl rfl hc69) rfl ?_
 refine st (v:=.bool true) (x_pick_t (.tmp rfl (cVb hc69)) .const) ?_
 exact jw_end ⟨(cVb (jor_t hc69)),rfl,rfl,(congrArg (fun z => Value.pointer (some ⟨z,0,none⟩)) hmg65.symm),rfl,rfl,rfl,hs67⟩
 have hp69:¬ ((f.From:Int) < 0):=of_decide_eq_false hc69
 refine g_yes (yk 48 false rfl rfl hc69) ?_
 refine st (v:=.pointer (some ⟨g29,0 + 1,none⟩)) (fa51_1 (.tmp rfl rfl)) ?_
 refine g_yes (yk 48 false rfl rfl hc69) ?_
 refine st (v:=.int .i64 f.From) (ld3 (.tmp rfl rfl) (hs67.cell 1 rfl (0 + 1) rfl)) ?_
 refine g_yes (yk 48 false rfl rfl hc69) ?_
 refine st (v:=.int .i64 (((1 + (n % 16)):Nat):Int)) (x_move (.tmp rfl rfl)) ?_
 refine g_yes (yk 48 false rfl rfl hc69) ?_
 refine st (v:=.bool (decide (((((1 + (n % 16)):Nat):Int):Int) ≤ f.From))) (x_geq (k:=.i64) (a:=f.From) (b:=(((1 + (n % 16)):Nat):Int)) (.tmp rfl rfl) (.tmp rfl rfl)) ?_
 refine st (v:=.bool (decide (((((1 + (n % 16)):Nat):Int):Int) ≤ f.From))) (x_pick_f (.tmp rfl (cVb hc69)) (.tmp rfl rfl)) ?_
 exact jw_end ⟨(cVb (jor_f hc69)),rfl,rfl,(congrArg (fun z => Value.pointer (some ⟨z,0,none⟩)) hmg65.symm),rfl,rfl,rfl,hs67⟩
 rintro ρ w ⟨hρ70,hρ71,hρ72,hρ73,hρ74,hρ75,hρ76,hs77⟩
 refine st (v:=.bool ((decide ((f.From:Int) < 0)) || (decide (((((1 + (n % 16)):Nat):Int):Int) ≤ f.From)))) (x_move (.tmp rfl hρ70)) ?_
 refine jw 5 (fun ρ w => ρ 59 = .bool (((decide ((f.From:Int) < 0)) || (decide (((((1 + (n % 16)):Nat):Int):Int) ≤ f.From))) || (decide ((f.From:Int) = (((z % (1 + (n % 16))):Nat):Int))))∧ρ 5 = .pointer (some ⟨g29,0,none⟩)∧ρ 9 = .pointer (some ⟨mm63.g,0,none⟩)∧ρ 11 = v56∧ρ 12 = iv61∧ρ 13 = .int .i64 ((MB.inn mm44.m f (GState.mk (GViewID.mk 0 0) 0 [])).2.2.2)∧St H54 w (row 53 16 v56 (((MB.inn mm44.m f (GState.mk (GViewID.mk 0 0) 0 [])).2.1).length) cs59::obj g29 51 [.int .u8 ((f.Kind:Nat):Int),.int .i64 f.From,.int .u64 ((f.ID.N:Nat):Int),.int .i64 f.ID.P,.int .u16 ((f.Set:Nat):Int),.int .u64 ((f.Cur.N:Nat):Int),.int .i64 f.Cur.P,.int .u64 ((f.Prom.N:Nat):Int),.int .i64 f.Prom.P,.slice A14 n15 c16,.int .u64 ((f.Base:Nat):Int),.slice A19 n20 c21,.slice A23 n24 c25,.int .u64 ((f.Ack:Nat):Int),.int .u64 ((f.Safe:Nat):Int)]::MM.res 78 81 37 mm63 ++ (L))) ?_ ?_
 rcases Bool.eq_false_or_eq_true ((decide ((f.From:Int) < 0)) || (decide (((((1 + (n % 16)):Nat):Int):Int) ≤ f.From))) with hc78 | hc78
 have hp78:((f.From:Int) < 0) ∨ (((((1 + (n % 16)):Nat):Int):Int) ≤ f.From):=((J_or decide_eq_true_iff decide_eq_true_iff)).1 hc78
 refine g_no (yk 54 true rfl rfl hc78) rfl ?_
 refine g_no (yk 54 true rfl rfl hc78) rfl ?_
 refine g_no (yk 54 true rfl rfl hc78) rfl ?_
 refine g_no (yk 54 true rfl rfl hc78) rfl ?_
 refine st (v:=.bool true) (x_pick_t (.tmp rfl (cVb hc78)) .const) ?_
 exact jw_end ⟨(cVb (jor_t hc78)),hρ71,hρ73,hρ74,hρ75,hρ76,hs77⟩
 have hp78:¬ (((f.From:Int) < 0) ∨ (((((1 + (n % 16)):Nat):Int):Int) ≤ f.From)):=J_no (J_or decide_eq_true_iff decide_eq_true_iff) hc78
 refine g_yes (yk 54 false rfl rfl hc78) ?_
 refine st (v:=.pointer (some ⟨g29,0 + 1,none⟩)) (fa51_1 (.tmp rfl hρ71)) ?_
 refine g_yes (yk 54 false rfl rfl hc78) ?_
 refine st (v:=.int .i64 f.From) (ld3 (.tmp rfl rfl) (hs77.cell 1 rfl (0 + 1) rfl)) ?_
 refine g_yes (yk 54 false rfl rfl hc78) ?_
 refine st (v:=.int .i64 (((z % (1 + (n % 16))):Nat):Int)) (x_move (.tmp rfl hρ72)) ?_
 refine g_yes (yk 54 false rfl rfl hc78) ?_
 refine st (v:=.bool (decide ((f.From:Int) = (((z % (1 + (n % 16))):Nat):Int)))) (x_eql (k:=.i64) (a:=f.From) (b:=(((z % (1 + (n % 16))):Nat):Int)) (.tmp rfl rfl) (.tmp rfl rfl)) ?_
 refine st (v:=.bool (decide ((f.From:Int) = (((z % (1 + (n % 16))):Nat):Int)))) (x_pick_f (.tmp rfl (cVb hc78)) (.tmp rfl rfl)) ?_
 exact jw_end ⟨(cVb (jor_f hc78)),hρ71,hρ73,hρ74,hρ75,hρ76,hs77⟩
 rintro ρ w ⟨hρ79,hρ80,hρ81,hρ82,hρ83,hρ84,hs85⟩
 refine c_nil (n_then ?_)
 rcases Bool.eq_false_or_eq_true (((decide ((f.From:Int) < 0)) || (decide (((((1 + (n % 16)):Nat):Int):Int) ≤ f.From))) || (decide ((f.From:Int) = (((z % (1 + (n % 16))):Nat):Int)))) with hc86 | hc86
 have hp86:(((f.From:Int) < 0) ∨ (((((1 + (n % 16)):Nat):Int):Int) ≤ f.From)) ∨ ((f.From:Int) = (((z % (1 + (n % 16))):Nat):Int)):=((J_or (J_or decide_eq_true_iff decide_eq_true_iff) decide_eq_true_iff)).1 hc86
 refine c_cond_t (t:=true) (.tmp rfl (hρ79.trans (cVb hc86))) rfl ?_
 refine c_seq (c_region (st (v:=.int .i64 ((MB.inn mm44.m f (GState.mk (GViewID.mk 0 0) 0 [])).2.2.2)) (x_move (.tmp rfl hρ84)) ?_))
 refine st (v:=.bool (decide ((((MB.inn mm44.m f (GState.mk (GViewID.mk 0 0) 0 [])).2.2.2):Int) = 1))) (x_eql (k:=.i64) (a:=((MB.inn mm44.m f (GState.mk (GViewID.mk 0 0) 0 [])).2.2.2)) (b:=1) (.tmp rfl rfl) .const) ?_
 refine st (v:=.bool (decide ((((MB.inn mm44.m f (GState.mk (GViewID.mk 0 0) 0 [])).2.2.2):Int) = 1))) (x_move (.tmp rfl rfl)) ?_
 have hc87:(decide ((((MB.inn mm44.m f (GState.mk (GViewID.mk 0 0) 0 [])).2.2.2):Int) = 1)) = true:=(decide_eq_true (by rw [hmm46,new_in_arg (by omega)]; try rfl))
 have hp87:(((MB.inn mm44.m f (GState.mk (GViewID.mk 0 0) 0 [])).2.2.2):Int) = 1:=of_decide_eq_true hc87
 refine g_yes (yk 62 true rfl rfl hc87) ?_
 refine st (v:=v56) (x_move (.tmp rfl hρ82)) ?_
 refine g_yes (yk 62 true rfl rfl hc87) ?_
 obtain ⟨A88,c89,hv90,hc91⟩:=ok57.slice
 refine st (v:=.int .i64 ((((MB.inn mm44.m f (GState.mk (GViewID.mk 0 0) 0 [])).2.1).length:Nat):Int)) (x_len (n:=((MB.inn mm44.m f (GState.mk (GViewID.mk 0 0) 0 [])).2.1).length) Tryd.underlying27 (.tmp rfl hv90)) ?_
 refine g_yes (yk 62 true rfl rfl hc87) ?_
 refine st (v:=.bool (decide ((((((MB.inn mm44.m f (GState.mk (GViewID.mk 0 0) 0 [])).2.1).length:Nat):Int):Int) = 0))) (x_eql (k:=.i64) (a:=((((MB.inn mm44.m f (GState.mk (GViewID.mk 0 0) 0 [])).2.1).length:Nat):Int)) (b:=0) (.tmp rfl rfl) .const) ?_
 refine st (v:=.bool (decide ((((((MB.inn mm44.m f (GState.mk (GViewID.mk 0 0) 0 [])).2.1).length:Nat):Int):Int) = 0))) (x_pick_t (.tmp rfl (cVb hc87)) (.tmp rfl rfl)) ?_
 refine st (v:=.bool (decide ((((((MB.inn mm44.m f (GState.mk (GViewID.mk 0 0) 0 [])).2.1).length:Nat):Int):Int) = 0))) (x_move (.tmp rfl rfl)) ?_
 have hc92:(decide ((((((MB.inn mm44.m f (GState.mk (GViewID.mk 0 0) 0 [])).2.1).length:Nat):Int):Int) = 0)) = true:=(decide_eq_true (by rw [hmm46,new_in_arg (by omega)]; try rfl))
 have hp92:(((((MB.inn mm44.m f (GState.mk (GViewID.mk 0 0) 0 [])).2.1).length:Nat):Int):Int) = 0:=of_decide_eq_true hc92
 refine g_yes (yk 67 true rfl rfl hc92) ?_
 refine st (v:=iv61) (x_move (.tmp rfl hρ83)) ?_
 refine g_yes (yk 67 true rfl rfl hc92) ?_
 obtain rfl:iv61 = .pointer none:=by have h9:=hin62; rw [show (MB.inn mm44.m f (GState.mk (GViewID.mk 0 0) 0 [])).2.2.1 = none from (by rw [hmm46]; exact new_in_some.1)] at h9; exact h9
 refine st (v:=.bool true) (x_eqlP Tryd.underlying28 (.tmp rfl rfl) .const rfl) ?_
 refine st (v:=.bool true) (x_pick_t (.tmp rfl (cVb hc92)) (.tmp rfl rfl)) ?_
 refine st (v:=.bool true) (x_move (.tmp rfl rfl)) ?_
 refine g_yes (yl (dj:=71) (b:=true) rfl rfl rfl) ?_
 refine st (v:=.pointer (some ⟨mm63.g,0,none⟩)) (x_move (.tmp rfl hρ81)) ?_
 refine g_yes (yl (dj:=71) (b:=true) rfl rfl rfl) ?_
 have hs100:St H54 _ (MM.res 78 81 37 mm63 ++ (row 53 16 v56 (((MB.inn mm44.m f (GState.mk (GViewID.mk 0 0) 0 [])).2.1).length) cs59::obj g29 51 [.int .u8 ((f.Kind:Nat):Int),.int .i64 f.From,.int .u64 ((f.ID.N:Nat):Int),.int .i64 f.ID.P,.int .u16 ((f.Set:Nat):Int),.int .u64 ((f.Cur.N:Nat):Int),.int .i64 f.Cur.P,.int .u64 ((f.Prom.N:Nat):Int),.int .i64 f.Prom.P,.slice A14 n15 c16,.int .u64 ((f.Base:Nat):Int),.slice A19 n20 c21,.slice A23 n24 c25,.int .u64 ((f.Ack:Nat):Int),.int .u64 ((f.Safe:Nat):Int)]::L)):=St.upL [row 53 16 v56 (((MB.inn mm44.m f (GState.mk (GViewID.mk 0 0) 0 [])).2.1).length) cs59,obj g29 51 [.int .u8 ((f.Kind:Nat):Int),.int .i64 f.From,.int .u64 ((f.ID.N:Nat):Int),.int .i64 f.ID.P,.int .u16 ((f.Set:Nat):Int),.int .u64 ((f.Cur.N:Nat):Int),.int .i64 f.Cur.P,.int .u64 ((f.Prom.N:Nat):Int),.int .i64 f.Prom.P,.slice A14 n15 c16,.int .u64 ((f.Base:Nat):Int),.slice A19 n20 c21,.slice A23 n24 c25,.int .u64 ((f.Ack:Nat):Int),.int .u64 ((f.Safe:Nat):Int)]] hs85
 refine st_c cb19 .func (evs1 (.tmp rfl rfl)) (prom_mm hs100 (x:=mm63) mok64 ) ?_
 rintro e w101 ⟨cs103,rfl,hr104,hs102⟩
 obtain ⟨rfl,b105,⟨b106,b107⟩⟩:=hr104
 refine ⟨_,rfl,?_⟩
 have hs108:St H54 _ (row 53 16 v56 (((MB.inn mm44.m f (GState.mk (GViewID.mk 0 0) 0 [])).2.1).length) cs59::obj g29 51 [.int .u8 ((f.Kind:Nat):Int),.int .i64 f.From,.int .u64 ((f.ID.N:Nat):Int),.int .i64 f.ID.P,.int .u16 ((f.Set:Nat):Int),.int .u64 ((f.Cur.N:Nat):Int),.int .i64 f.Cur.P,.int .u64 ((f.Prom.N:Nat):Int),.int .i64 f.Prom.P,.slice A14 n15 c16,.int .u64 ((f.Base:Nat):Int),.slice A19 n20 c21,.slice A23 n24 c25,.int .u64 ((f.Ack:Nat):Int),.int .u64 ((f.Safe:Nat):Int)]::MM.res 78 81 37 mm63 ++ (L)):=St.downL [row 53 16 v56 (((MB.inn mm44.m f (GState.mk (GViewID.mk 0 0) 0 [])).2.1).length) cs59,obj g29 51 [.int .u8 ((f.Kind:Nat):Int),.int .i64 f.From,.int .u64 ((f.ID.N:Nat):Int),.int .i64 f.ID.P,.int .u16 ((f.Set:Nat):Int),.int .u64 ((f.Cur.N:Nat):Int),.int .i64 f.Cur.P,.int .u64 ((f.Prom.N:Nat):Int),.int .i64 f.Prom.P,.slice A14 n15 c16,.int .u64 ((f.Base:Nat):Int),.slice A19 n20 c21,.slice A23 n24 c25,.int .u64 ((f.Ack:Nat):Int),.int .u64 ((f.Safe:Nat):Int)]] hs102
 refine g_yes (yl (dj:=71) (b:=true) rfl rfl rfl) ?_
 refine st (v:=.agg #[.int .u64 0,.int .i64 0]) (bl34 (ps:=[]) Evp.nil rfl) ?_
 refine g_yes (yl (dj:=71) (b:=true) rfl rfl rfl) ?_
 refine st (v:=.bool ((((mm63.m.prom.N:Nat):Int) == 0) && ((mm63.m.prom.P == 0) && true))) (x_eqlA eqg34 (.tmp rfl rfl) (.tmp rfl rfl) (fun d => eqs34 (d + 98) _ ((mm63.m.prom.N:Nat):Int) 0 mm63.m.prom.P 0)) ?_
 refine st (v:=.bool (decide (mm63.m.prom = (GViewID.mk 0 0)))) (x_pick_t (.tmp rfl rfl) (.tmp rfl (cVb (GViewID.beq_dec mm63.m.prom (GViewID.mk 0 0))))) ?_
 refine st (v:=.bool (decide (mm63.m.prom = (GViewID.mk 0 0)))) (x_assign (.tmp rfl rfl)) ?_
 refine c_nil (n_then (c_ret (r_then (leave_ret (res_one (v:=.bool (decide (mm63.m.prom = (GViewID.mk 0 0)))) rfl (.mk rfl rfl)) ?_))))
 have hyes:(decide (mm63.m.prom = (GViewID.mk 0 0))) = true:=(decide_eq_true (by rw [hmm66,hmm46,new_in_arg (by omega)]; try rfl))
 rw [hyes]
 exact ⟨rfl,((St.dropL [] hs108.drop.drop).weaken hle55)⟩
 have hp86:¬ ((((f.From:Int) < 0) ∨ (((((1 + (n % 16)):Nat):Int):Int) ≤ f.From)) ∨ ((f.From:Int) = (((z % (1 + (n % 16))):Nat):Int))):=J_no (J_or (J_or decide_eq_true_iff decide_eq_true_iff) decide_eq_true_iff) hc86
 refine c_cond_f (t:=false) (.tmp rfl (hρ79.trans (cVb hc86))) rfl ?_
 refine c_skip (n_then (c_seq (c_seq (c_region (st (v:=.pointer (some ⟨g29,0 + 0,none⟩)) (fa51_0 (.tmp rfl hρ80)) ?_)))))
 refine st (v:=.int .u8 ((f.Kind:Nat):Int)) (ld5 (.tmp rfl rfl) (hs85.cell 1 rfl (0 + 0) rfl)) ?_
 refine st (v:=.bool (decide ((((f.Kind:Nat):Int):Int) < 1))) (x_lss (k:=.u8) (a:=((f.Kind:Nat):Int)) (b:=1) (.tmp rfl rfl) .const) ?_
 refine st (v:=.bool (decide ((((f.Kind:Nat):Int):Int) < 1))) (x_move (.tmp rfl rfl)) ?_
 refine jw 4 (fun ρ w => ρ 84 = .bool ((decide ((((f.Kind:Nat):Int):Int) < 1)) || (decide ((5:Int) < ((f.Kind:Nat):Int))))∧ρ 9 = .pointer (some ⟨mm63.g,0,none⟩)∧ρ 11 = v56∧ρ 12 = iv61∧ρ 13 = .int .i64 ((MB.inn mm44.m f (GState.mk (GViewID.mk 0 0) 0 [])).2.2.2)∧St H54 w (row 53 16 v56 (((MB.inn mm44.m f (GState.mk (GViewID.mk 0 0) 0 [])).2.1).length) cs59::obj g29 51 [.int .u8 ((f.Kind:Nat):Int),.int .i64 f.From,.int .u64 ((f.ID.N:Nat):Int),.int .i64 f.ID.P,.int .u16 ((f.Set:Nat):Int),.int .u64 ((f.Cur.N:Nat):Int),.int .i64 f.Cur.P,.int .u64 ((f.Prom.N:Nat):Int),.int .i64 f.Prom.P,.slice A14 n15 c16,.int .u64 ((f.Base:Nat):Int),.slice A19 n20 c21,.slice A23 n24 c25,.int .u64 ((f.Ack:Nat):Int),.int .u64 ((f.Safe:Nat):Int)]::MM.res 78 81 37 mm63 ++ (L))) ?_ ?_
 rcases Bool.eq_false_or_eq_true (decide ((((f.Kind:Nat):Int):Int) < 1)) with hc109 | hc109
 have hp109:(((f.Kind:Nat):Int):Int) < 1:=of_decide_eq_true hc109
 refine g_no (yk 80 true rfl rfl hc109) rfl ?_
 refine g_no (yk 80 true rfl rfl hc109) rfl ?_
 refine g_no (yk 80 true rfl rfl hc109) rfl ?_
 refine st (v:=.bool true) (x_pick_t (.tmp rfl (cVb hc109)) .const) ?_
 exact jw_end ⟨(cVb (jor_t hc109)),hρ81,hρ82,hρ83,hρ84,hs85⟩
 have hp109:¬ ((((f.Kind:Nat):Int):Int) < 1):=of_decide_eq_false hc109
 refine g_yes (yk 80 false rfl rfl hc109) ?_
 refine st (v:=.pointer (some ⟨g29,0 + 0,none⟩)) (fa51_0 (.tmp rfl hρ80)) ?_
 refine g_yes (yk 80 false rfl rfl hc109) ?_
 refine st (v:=.int .u8 ((f.Kind:Nat):Int)) (ld5 (.tmp rfl rfl) (hs85.cell 1 rfl (0 + 0) rfl)) ?_
 refine g_yes (yk 80 false rfl rfl hc109) ?_
 refine st (v:=.bool (decide ((5:Int) < ((f.Kind:Nat):Int)))) (x_gtr (k:=.u8) (a:=((f.Kind:Nat):Int)) (b:=5) (.tmp rfl rfl) .const) ?_
 refine st (v:=.bool (decide ((5:Int) < ((f.Kind:Nat):Int)))) (x_pick_f (.tmp rfl (cVb hc109)) (.tmp rfl rfl)) ?_
 exact jw_end ⟨(cVb (jor_f hc109)),hρ81,hρ82,hρ83,hρ84,hs85⟩
 rintro ρ w ⟨hρ110,hρ111,hρ112,hρ113,hρ114,hs115⟩
 refine c_nil (n_then ?_)
 rcases Bool.eq_false_or_eq_true ((decide ((((f.Kind:Nat):Int):Int) < 1)) || (decide ((5:Int) < ((f.Kind:Nat):Int)))) with hc116 | hc116
 have hp116:((((f.Kind:Nat):Int):Int) < 1) ∨ ((5:Int) < ((f.Kind:Nat):Int)):=((J_or decide_eq_true_iff decide_eq_true_iff)).1 hc116
 refine c_cond_t (t:=true) (.tmp rfl (hρ110.trans (cVb hc116))) rfl ?_
 refine c_seq (c_region (st (v:=.int .i64 ((MB.inn mm44.m f (GState.mk (GViewID.mk 0 0) 0 [])).2.2.2)) (x_move (.tmp rfl hρ114)) ?_))
 refine st (v:=.bool (decide ((((MB.inn mm44.m f (GState.mk (GViewID.mk 0 0) 0 [])).2.2.2):Int) = 3))) (x_eql (k:=.i64) (a:=((MB.inn mm44.m f (GState.mk (GViewID.mk 0 0) 0 [])).2.2.2)) (b:=3) (.tmp rfl rfl) .const) ?_
 refine st (v:=.bool (decide ((((MB.inn mm44.m f (GState.mk (GViewID.mk 0 0) 0 [])).2.2.2):Int) = 3))) (x_move (.tmp rfl rfl)) ?_
 have hc117:(decide ((((MB.inn mm44.m f (GState.mk (GViewID.mk 0 0) 0 [])).2.2.2):Int) = 3)) = true:=(decide_eq_true (by rw [hmm46,new_in_form (by omega) (by omega)]; try rfl))
 have hp117:(((MB.inn mm44.m f (GState.mk (GViewID.mk 0 0) 0 [])).2.2.2):Int) = 3:=of_decide_eq_true hc117
 refine g_yes (yk 87 true rfl rfl hc117) ?_
 refine st (v:=v56) (x_move (.tmp rfl hρ112)) ?_
 refine g_yes (yk 87 true rfl rfl hc117) ?_
 obtain ⟨A118,c119,hv120,hc121⟩:=ok57.slice
 refine st (v:=.int .i64 ((((MB.inn mm44.m f (GState.mk (GViewID.mk 0 0) 0 [])).2.1).length:Nat):Int)) (x_len (n:=((MB.inn mm44.m f (GState.mk (GViewID.mk 0 0) 0 [])).2.1).length) Tryd.underlying27 (.tmp rfl hv120)) ?_
 refine g_yes (yk 87 true rfl rfl hc117) ?_
 refine st (v:=.bool (decide ((((((MB.inn mm44.m f (GState.mk (GViewID.mk 0 0) 0 [])).2.1).length:Nat):Int):Int) = 0))) (x_eql (k:=.i64) (a:=((((MB.inn mm44.m f (GState.mk (GViewID.mk 0 0) 0 [])).2.1).length:Nat):Int)) (b:=0) (.tmp rfl rfl) .const) ?_
 refine st (v:=.bool (decide ((((((MB.inn mm44.m f (GState.mk (GViewID.mk 0 0) 0 [])).2.1).length:Nat):Int):Int) = 0))) (x_pick_t (.tmp rfl (cVb hc117)) (.tmp rfl rfl)) ?_
 refine st (v:=.bool (decide ((((((MB.inn mm44.m f (GState.mk (GViewID.mk 0 0) 0 [])).2.1).length:Nat):Int):Int) = 0))) (x_move (.tmp rfl rfl)) ?_
 have hc122:(decide ((((((MB.inn mm44.m f (GState.mk (GViewID.mk 0 0) 0 [])).2.1).length:Nat):Int):Int) = 0)) = true:=(decide_eq_true (by rw [hmm46,new_in_form (by omega) (by omega)]; try rfl))
 have hp122:(((((MB.inn mm44.m f (GState.mk (GViewID.mk 0 0) 0 [])).2.1).length:Nat):Int):Int) = 0:=of_decide_eq_true hc122
 refine g_yes (yk 92 true rfl rfl hc122) ?_
 refine st (v:=iv61) (x_move (.tmp rfl hρ113)) ?_
 refine g_yes (yk 92 true rfl rfl hc122) ?_
 obtain rfl:iv61 = .pointer none:=by have h9:=hin62; rw [show (MB.inn mm44.m f (GState.mk (GViewID.mk 0 0) 0 [])).2.2.1 = none from (by rw [hmm46]; exact new_in_some.1)] at h9; exact h9
 refine st (v:=.bool true) (x_eqlP Tryd.underlying28 (.tmp rfl rfl) .const rfl) ?_
 refine st (v:=.bool true) (x_pick_t (.tmp rfl (cVb hc122)) (.tmp rfl rfl)) ?_
 refine st (v:=.bool true) (x_move (.tmp rfl rfl)) ?_
 refine g_yes (yl (dj:=96) (b:=true) rfl rfl rfl) ?_
 refine st (v:=.pointer (some ⟨mm63.g,0,none⟩)) (x_move (.tmp rfl hρ111)) ?_
 refine g_yes (yl (dj:=96) (b:=true) rfl rfl rfl) ?_
 have hs130:St H54 _ (MM.res 78 81 37 mm63 ++ (row 53 16 v56 (((MB.inn mm44.m f (GState.mk (GViewID.mk 0 0) 0 [])).2.1).length) cs59::obj g29 51 [.int .u8 ((f.Kind:Nat):Int),.int .i64 f.From,.int .u64 ((f.ID.N:Nat):Int),.int .i64 f.ID.P,.int .u16 ((f.Set:Nat):Int),.int .u64 ((f.Cur.N:Nat):Int),.int .i64 f.Cur.P,.int .u64 ((f.Prom.N:Nat):Int),.int .i64 f.Prom.P,.slice A14 n15 c16,.int .u64 ((f.Base:Nat):Int),.slice A19 n20 c21,.slice A23 n24 c25,.int .u64 ((f.Ack:Nat):Int),.int .u64 ((f.Safe:Nat):Int)]::L)):=St.upL [row 53 16 v56 (((MB.inn mm44.m f (GState.mk (GViewID.mk 0 0) 0 [])).2.1).length) cs59,obj g29 51 [.int .u8 ((f.Kind:Nat):Int),.int .i64 f.From,.int .u64 ((f.ID.N:Nat):Int),.int .i64 f.ID.P,.int .u16 ((f.Set:Nat):Int),.int .u64 ((f.Cur.N:Nat):Int),.int .i64 f.Cur.P,.int .u64 ((f.Prom.N:Nat):Int),.int .i64 f.Prom.P,.slice A14 n15 c16,.int .u64 ((f.Base:Nat):Int),.slice A19 n20 c21,.slice A23 n24 c25,.int .u64 ((f.Ack:Nat):Int),.int .u64 ((f.Safe:Nat):Int)]] hs115
 refine st_c cb19 .func (evs1 (.tmp rfl rfl)) (prom_mm hs130 (x:=mm63) mok64 ) ?_
 rintro e w131 ⟨cs133,rfl,hr134,hs132⟩
 obtain ⟨rfl,b135,⟨b136,b137⟩⟩:=hr134
 refine ⟨_,rfl,?_⟩
 have hs138:St H54 _ (row 53 16 v56 (((MB.inn mm44.m f (GState.mk (GViewID.mk 0 0) 0 [])).2.1).length) cs59::obj g29 51 [.int .u8 ((f.Kind:Nat):Int),.int .i64 f.From,.int .u64 ((f.ID.N:Nat):Int),.int .i64 f.ID.P,.int .u16 ((f.Set:Nat):Int),.int .u64 ((f.Cur.N:Nat):Int),.int .i64 f.Cur.P,.int .u64 ((f.Prom.N:Nat):Int),.int .i64 f.Prom.P,.slice A14 n15 c16,.int .u64 ((f.Base:Nat):Int),.slice A19 n20 c21,.slice A23 n24 c25,.int .u64 ((f.Ack:Nat):Int),.int .u64 ((f.Safe:Nat):Int)]::MM.res 78 81 37 mm63 ++ (L)):=St.downL [row 53 16 v56 (((MB.inn mm44.m f (GState.mk (GViewID.mk 0 0) 0 [])).2.1).length) cs59,obj g29 51 [.int .u8 ((f.Kind:Nat):Int),.int .i64 f.From,.int .u64 ((f.ID.N:Nat):Int),.int .i64 f.ID.P,.int .u16 ((f.Set:Nat):Int),.int .u64 ((f.Cur.N:Nat):Int),.int .i64 f.Cur.P,.int .u64 ((f.Prom.N:Nat):Int),.int .i64 f.Prom.P,.slice A14 n15 c16,.int .u64 ((f.Base:Nat):Int),.slice A19 n20 c21,.slice A23 n24 c25,.int .u64 ((f.Ack:Nat):Int),.int .u64 ((f.Safe:Nat):Int)]] hs132
 refine g_yes (yl (dj:=96) (b:=true) rfl rfl rfl) ?_
 refine st (v:=.agg #[.int .u64 0,.int .i64 0]) (bl34 (ps:=[]) Evp.nil rfl) ?_
 refine g_yes (yl (dj:=96) (b:=true) rfl rfl rfl) ?_
 refine st (v:=.bool ((((mm63.m.prom.N:Nat):Int) == 0) && ((mm63.m.prom.P == 0) && true))) (x_eqlA eqg34 (.tmp rfl rfl) (.tmp rfl rfl) (fun d => eqs34 (d + 98) _ ((mm63.m.prom.N:Nat):Int) 0 mm63.m.prom.P 0)) ?_
 refine st (v:=.bool (decide (mm63.m.prom = (GViewID.mk 0 0)))) (x_pick_t (.tmp rfl rfl) (.tmp rfl (cVb (GViewID.beq_dec mm63.m.prom (GViewID.mk 0 0))))) ?_
 refine st (v:=.bool (decide (mm63.m.prom = (GViewID.mk 0 0)))) (x_assign (.tmp rfl rfl)) ?_
 refine c_nil (n_then (c_ret (r_then (leave_ret (res_one (v:=.bool (decide (mm63.m.prom = (GViewID.mk 0 0)))) rfl (.mk rfl rfl)) ?_))))
 have hyes:(decide (mm63.m.prom = (GViewID.mk 0 0))) = true:=(decide_eq_true (by rw [hmm66,hmm46,new_in_form (by omega) (by omega)]; try rfl))
 rw [hyes]
 exact ⟨rfl,((St.dropL [] hs138.drop.drop).weaken hle55)⟩
 have hp116:¬ (((((f.Kind:Nat):Int):Int) < 1) ∨ ((5:Int) < ((f.Kind:Nat):Int))):=J_no (J_or decide_eq_true_iff decide_eq_true_iff) hc116
 refine c_cond_f (t:=false) (.tmp rfl (hρ110.trans (cVb hc116))) rfl ?_
 refine c_skip (n_then (c_seq (c_region (st (v:=iv61) (x_move (.tmp rfl hρ113)) ?_))))
 obtain rfl:iv61 = .pointer none:=by have h9:=hin62; rw [show (MB.inn mm44.m f (GState.mk (GViewID.mk 0 0) 0 [])).2.2.1 = none from (by rw [hmm46]; exact new_in_some.1)] at h9; exact h9
 refine st (v:=.bool true) (x_eqlP Tryd.underlying28 (.tmp rfl rfl) .const rfl) ?_
 refine st (v:=.bool true) (x_move (.tmp rfl rfl)) ?_
 refine g_yes (yl (dj:=104) (b:=true) rfl rfl rfl) ?_
 refine st (v:=.pointer (some ⟨mm63.g,0,none⟩)) (x_move (.tmp rfl hρ111)) ?_
 refine g_yes (yl (dj:=104) (b:=true) rfl rfl rfl) ?_
 have hs146:St H54 _ (MM.res 78 81 37 mm63 ++ (row 53 16 v56 (((MB.inn mm44.m f (GState.mk (GViewID.mk 0 0) 0 [])).2.1).length) cs59::obj g29 51 [.int .u8 ((f.Kind:Nat):Int),.int .i64 f.From,.int .u64 ((f.ID.N:Nat):Int),.int .i64 f.ID.P,.int .u16 ((f.Set:Nat):Int),.int .u64 ((f.Cur.N:Nat):Int),.int .i64 f.Cur.P,.int .u64 ((f.Prom.N:Nat):Int),.int .i64 f.Prom.P,.slice A14 n15 c16,.int .u64 ((f.Base:Nat):Int),.slice A19 n20 c21,.slice A23 n24 c25,.int .u64 ((f.Ack:Nat):Int),.int .u64 ((f.Safe:Nat):Int)]::L)):=St.upL [row 53 16 v56 (((MB.inn mm44.m f (GState.mk (GViewID.mk 0 0) 0 [])).2.1).length) cs59,obj g29 51 [.int .u8 ((f.Kind:Nat):Int),.int .i64 f.From,.int .u64 ((f.ID.N:Nat):Int),.int .i64 f.ID.P,.int .u16 ((f.Set:Nat):Int),.int .u64 ((f.Cur.N:Nat):Int),.int .i64 f.Cur.P,.int .u64 ((f.Prom.N:Nat):Int),.int .i64 f.Prom.P,.slice A14 n15 c16,.int .u64 ((f.Base:Nat):Int),.slice A19 n20 c21,.slice A23 n24 c25,.int .u64 ((f.Ack:Nat):Int),.int .u64 ((f.Safe:Nat):Int)]] hs115
 refine st_c cb14 .func (evs1 (.tmp rfl rfl)) (cur_mm hs146 (x:=mm63) mok64 ) ?_
 rintro e w147 ⟨cs149,rfl,hr150,hs148⟩
 obtain ⟨rfl,b151,⟨b152,b153⟩,b154⟩:=hr150
 refine ⟨_,rfl,?_⟩
 have hs155:St H54 _ (row 53 16 v56 (((MB.inn mm44.m f (GState.mk (GViewID.mk 0 0) 0 [])).2.1).length) cs59::obj g29 51 [.int .u8 ((f.Kind:Nat):Int),.int .i64 f.From,.int .u64 ((f.ID.N:Nat):Int),.int .i64 f.ID.P,.int .u16 ((f.Set:Nat):Int),.int .u64 ((f.Cur.N:Nat):Int),.int .i64 f.Cur.P,.int .u64 ((f.Prom.N:Nat):Int),.int .i64 f.Prom.P,.slice A14 n15 c16,.int .u64 ((f.Base:Nat):Int),.slice A19 n20 c21,.slice A23 n24 c25,.int .u64 ((f.Ack:Nat):Int),.int .u64 ((f.Safe:Nat):Int)]::MM.res 78 81 37 mm63 ++ (L)):=St.downL [row 53 16 v56 (((MB.inn mm44.m f (GState.mk (GViewID.mk 0 0) 0 [])).2.1).length) cs59,obj g29 51 [.int .u8 ((f.Kind:Nat):Int),.int .i64 f.From,.int .u64 ((f.ID.N:Nat):Int),.int .i64 f.ID.P,.int .u16 ((f.Set:Nat):Int),.int .u64 ((f.Cur.N:Nat):Int),.int .i64 f.Cur.P,.int .u64 ((f.Prom.N:Nat):Int),.int .i64 f.Prom.P,.slice A14 n15 c16,.int .u64 ((f.Base:Nat):Int),.slice A19 n20 c21,.slice A23 n24 c25,.int .u64 ((f.Ack:Nat):Int),.int .u64 ((f.Safe:Nat):Int)]] hs148
 refine g_yes (yl (dj:=104) (b:=true) rfl rfl rfl) ?_
 refine st (v:=.agg #[.int .u64 0,.int .i64 0,.int .u16 0]) (bl39 (ps:=[]) Evp.nil rfl) ?_
 refine g_yes (yl (dj:=104) (b:=true) rfl rfl rfl) ?_
 refine st (v:=.bool (((((mm63.m.cur.ID.N:Nat):Int) == 0) && ((mm63.m.cur.ID.P == 0) && true)) && ((((mm63.m.cur.Set:Nat):Int) == 0) && true))) (x_eqlA eqg39 (.tmp rfl rfl) (.tmp rfl rfl) (fun d => eqs39 (d + 97) _ ((mm63.m.cur.ID.N:Nat):Int) 0 mm63.m.cur.ID.P 0 ((mm63.m.cur.Set:Nat):Int) 0)) ?_
 refine st (v:=.bool (decide (mm63.m.cur = (GView.mk (GViewID.mk 0 0) 0)))) (x_pick_t (.tmp rfl rfl) (.tmp rfl (cVb (GView.beq_dec mm63.m.cur (GView.mk (GViewID.mk 0 0) 0))))) ?_
 refine st (v:=.bool (decide (mm63.m.cur = (GView.mk (GViewID.mk 0 0) 0)))) (x_assign (.tmp rfl rfl)) ?_
 refine c_nil (n_then (c_ret (leave_ret (res_one (v:=.bool (decide (mm63.m.cur = (GView.mk (GViewID.mk 0 0) 0)))) rfl (.mk rfl rfl)) ?_)))
 have hyes:(decide (mm63.m.cur = (GView.mk (GViewID.mk 0 0) 0))) = true:=(decide_eq_true (by rw [hmm66,hmm46]; exact new_in_some.2))
 rw [hyes]
 exact ⟨rfl,((St.dropL [] hs155.drop.drop).weaken hle55)⟩
end Go.Proofs.YtcccaihjgoaehaaDoor
