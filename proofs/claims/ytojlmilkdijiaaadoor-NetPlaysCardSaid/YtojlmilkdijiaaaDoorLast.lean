/- Steps of the proofs over the functions of this seat, printed by a program (gen.py) and checked by Lean. -/
import Derived.Test.YtojlmilkdijiaaaDoorTie
import Derived.Test.YtojlmilkdijiaaaDoorCards
import Derived.SevenTiedAt
import Derived.Test.YtojlmilkdijiaaaDoorW01
import Derived.Test.YtojlmilkdijiaaaDoorW08
set_option linter.unusedVariables false
set_option linter.unusedSimpArgs false
namespace Go.Proofs.YtojlmilkdijiaaaDoor
open Go Go.FM Go.Proofs Go.ChangeShapes Go.WideShapes Go.ChangeAt Go.RowKit
set_option maxRecDepth 100000 in
theorem netPlays_lifted (os:Os) (started:os.Started) (H:Type) (enc:TypeId × Value → H) :
    ReturnsInHanded {} Tryd.checked os 9 .any (fun w args => (Rows.netPlaysSpec.pre enc Tryd.prog Tryd.f9 [] false w args∧laidMetH Tryd.prog [("math/bits.deBruijn32tab",Rows.laid_math_bits_deBruijn32tab)] w)∧sizedMet enc Tryd.prog Tryd.f9 (OpenSpec.ofChange Rows.netPlaysSpec) false w args)
      (Rows.netPlaysSpec.post enc Tryd.prog Tryd.f9 false true false false):=by
  refine returnsInHanded_of_change_and (C:=Tryd.checked) (X:=fun w _ => laidMetH Tryd.prog [("math/bits.deBruijn32tab",Rows.laid_math_bits_deBruijn32tab)] w) (fun _ _ _ hh h => h.of_heap hh) own started (by kernel_rfl) Tryd.func9
    (ChangeSpec.witness_shaped (enc:=enc) (C:=Tryd.checked) (os:=os) (X:=fun w _ => laidMetH Tryd.prog [("math/bits.deBruijn32tab",Rows.laid_math_bits_deBruijn32tab)] w) false (World.doorLaid Tryd.prog 400 os) #[.int .i64 0,.slice none 0 0] 8 rfl (World.shaped_of_RefB (by kernel_rfl) (by kernel_rfl)) (by kernel_rfl) (by kernel_rfl) (by kernel_rfl) (door_met os _)) ?_
  intro W base args ds gs before hval0 hW hcnd hsz0 hL _
  have hsz:(DataW.weightsEach Tryd.prog (Tryd.f9.params.toList ++ Rows.netPlaysSpec.plain.varTypes Tryd.prog) (ds ++ gs)).all (· ≤ reachBytes) = true:=hsz0
  have hval:∀ (j:Nat) t v,Tryd.f9.params[j]? = some t → args[j]? = some v → Value.okWide Tryd.prog W .any base t v:=hval0
  refine row_calls (enc:=enc) laidOut (by kernel_rfl) rfl Tryd.underlying4 rfl (by intro ds hd; match ds,hd with | [_,_],_ => rfl) hW ?_
  obtain ⟨p,q,hA0,hV,rfl,hfz,hnd⟩:=hW
  have hA:DataW.TrodAll enc Tryd.prog W 0 (fun _ => true) true Tryd.f9.params.toList args.toList ds p:=hA0
  rw [Tryd.params9] at hA hval hsz
  obtain ⟨v0,vs0,d0,ds0,p0,q0,hargs,rfl,rfl,h0,r0⟩:=trodAll_cons hA
  obtain ⟨v1,vs1,d1,ds1,p1,q1,rfl,rfl,rfl,h1,r1⟩:=trodAll_cons r0
  obtain ⟨rfl,rfl,rfl⟩:=trodAll_nil r1
  obtain rfl:args = #[v0,v1]:=by cases args; simp_all
  obtain ⟨rfl,rfl⟩:=trodVars_none hV
  have ht:Tab (Hp.of W):=of_laid hL
  obtain ⟨a0,rfl,b0,c0⟩:=open_i64 Tryd.underlying3 (hval 0 3 v0 rfl rfl) h0
  obtain ⟨A1,n1,c1,a1,rfl,b1⟩:=arg_sl (d:=kAct) Tryd.underlying49 opn49 (hval 1 49 v1 rfl rfl) h1 hsz (j:=1) rfl rfl
  clear hA0 hval0 hsz0 hsz
  refine (plays_spec (St.of W) a0 ⟨b0,c0⟩ a1 b1 ht).mono fun e W' h => ?_
  exact ⟨h.1,_,h.2⟩
theorem netPlays_holds:Rows.NetPlaysSaid :=
  OpenClaim.holds_of_wide 9 Tryd.f9 rfl rfl rfl rfl rfl rfl rfl ⟨rfl,rfl,rfl,rfl,rfl⟩ rfl rfl rfl rfl rfl (by kernel_rfl) Tryd.func9 (by kernel_rfl)
    (of_decide_eq_true (by kernel_rfl)) (by unfold Func.isWrapper; first | (rw [if_pos (by decide +kernel)]; kernel_rfl) | (rw [if_neg (by decide +kernel)]; exact ⟨rfl,rfl⟩))
    (fun os started H enc _ => netPlays_lifted os started H enc)
theorem netPlays_card:Rows.NetPlaysCardSaid :=
  Claim7.holds_tied_plain_at .later [] [.data] true (true,"c9ceef9db859815cad1b801b1d7fca5839cd872f46d2935ba3ac644c77c5de30") false
    netPlays_holds (fun _ h => by cases h) (by kernel_rfl) (fun _ h => by cases h) netPlays_row_tie rfl ⟨rfl,rfl⟩ (by kernel_rfl) rfl
    (fun f fn hf hfn => by
      obtain rfl:f = 9:=Option.some.inj ((show Tryd.prog.funcNamed "folkmoot/folkmootlaw08.NetPlays" = some 9 by kernel_rfl).symm.trans hf) |>.symm
      obtain rfl:fn = Tryd.f9:=(Option.some.inj (Tryd.func9.symm.trans hfn)).symm
      exact ⟨by kernel_rfl,fun j t ht => by
        rw [Tryd.params9] at ht
        have hm:t ∈ [3,49]:=by simpa using Array.mem_of_getElem? ht
        have hall:([3,49].all fun u => !Tryd.prog.wantsStandIn u) = true:=by kernel_rfl
        exact (show Tryd.prog.wantsStandIn t = false by simpa using List.all_eq_true.1 hall t hm)⟩)
    (by kernel_rfl)
end Go.Proofs.YtojlmilkdijiaaaDoor
