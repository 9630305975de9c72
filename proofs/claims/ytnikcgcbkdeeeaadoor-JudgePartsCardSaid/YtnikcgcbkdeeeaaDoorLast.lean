/- Steps of the proofs over the functions of this seat, printed by a program (gen.py) and checked by Lean. -/
import Derived.Test.YtnikcgcbkdeeeaaDoorTie
import Derived.Test.YtnikcgcbkdeeeaaDoorCards
import Derived.SevenTiedAt
import Derived.Test.YtnikcgcbkdeeeaaDoorW01
import Derived.Test.YtnikcgcbkdeeeaaDoorW08
set_option linter.unusedVariables false
set_option linter.unusedSimpArgs false
namespace Go.Proofs.YtnikcgcbkdeeeaaDoor
open Go Go.FM Go.Proofs Go.ChangeShapes Go.WideShapes Go.ChangeAt Go.RowKit
set_option maxRecDepth 100000 in
theorem judgeParts_lifted (os:Os) (started:os.Started) (H:Type) (enc:TypeId × Value → H) :
    ReturnsInHanded {} Tryd.checked os 8 .any (fun w args => (Rows.judgePartsSpec.pre enc Tryd.prog Tryd.f8 [] false w args∧laidMetH Tryd.prog [("math/bits.deBruijn32tab",Rows.laid_math_bits_deBruijn32tab)] w)∧sizedMet enc Tryd.prog Tryd.f8 (OpenSpec.ofChange Rows.judgePartsSpec) false w args)
      (Rows.judgePartsSpec.post enc Tryd.prog Tryd.f8 false true false false):=by
  refine returnsInHanded_of_change_and (C:=Tryd.checked) (X:=fun w _ => laidMetH Tryd.prog [("math/bits.deBruijn32tab",Rows.laid_math_bits_deBruijn32tab)] w) (fun _ _ _ hh h => h.of_heap hh) own started (by kernel_rfl) Tryd.func8
    (ChangeSpec.witness_shaped (enc:=enc) (C:=Tryd.checked) (os:=os) (X:=fun w _ => laidMetH Tryd.prog [("math/bits.deBruijn32tab",Rows.laid_math_bits_deBruijn32tab)] w) false (World.doorLaid Tryd.prog 400 os) #[.int .u8 0,.slice none 0 0,.int .u8 0] 8 rfl (World.shaped_of_RefB (by kernel_rfl) (by kernel_rfl)) (by kernel_rfl) (by kernel_rfl) (by kernel_rfl) (door_met os _)) ?_
  intro W base args ds gs before hval0 hW hcnd hsz0 hL _
  have hsz:(DataW.weightsEach Tryd.prog (Tryd.f8.params.toList ++ Rows.judgePartsSpec.plain.varTypes Tryd.prog) (ds ++ gs)).all (· ≤ reachBytes) = true:=hsz0
  have hval:∀ (j:Nat) t v,Tryd.f8.params[j]? = some t → args[j]? = some v → Value.okWide Tryd.prog W .any base t v:=hval0
  refine row_calls (enc:=enc) laidOut (by kernel_rfl) rfl Tryd.underlying4 rfl (by intro ds hd; match ds,hd with | [_,_,_],_ => rfl) hW ?_
  obtain ⟨p,q,hA0,hV,rfl,hfz,hnd⟩:=hW
  have hA:DataW.TrodAll enc Tryd.prog W 0 (fun _ => true) true Tryd.f8.params.toList args.toList ds p:=hA0
  rw [Tryd.params8] at hA hval hsz
  obtain ⟨v0,vs0,d0,ds0,p0,q0,hargs,rfl,rfl,h0,r0⟩:=trodAll_cons hA
  obtain ⟨v1,vs1,d1,ds1,p1,q1,rfl,rfl,rfl,h1,r1⟩:=trodAll_cons r0
  obtain ⟨v2,vs2,d2,ds2,p2,q2,rfl,rfl,rfl,h2,r2⟩:=trodAll_cons r1
  obtain ⟨rfl,rfl,rfl⟩:=trodAll_nil r2
  obtain rfl:args = #[v0,v1,v2]:=by cases args; simp_all
  obtain ⟨rfl,rfl⟩:=trodVars_none hV
  have ht:Tab (Hp.of W):=of_laid hL
  obtain ⟨a0,rfl,b0⟩:=open_nat Tryd.underlying5 rfl (hval 0 5 v0 rfl rfl) h0
  obtain ⟨A1,n1,c1,a1,rfl,b1⟩:=arg_sl (d:=kRun) Tryd.underlying38 opn38 (hval 1 38 v1 rfl rfl) h1 hsz (j:=1) rfl rfl
  obtain ⟨a2,rfl,b2⟩:=open_nat Tryd.underlying5 rfl (hval 2 5 v2 rfl rfl) h2
  clear hA0 hval0 hsz0 hsz
  refine (jparts_law (St.of W) a0 b0 a1 b1 a2 b2 ht).mono fun e W' h => ?_
  exact ⟨h.1,_,h.2⟩
theorem judgeParts_holds:Rows.JudgePartsSaid :=
  OpenClaim.holds_of_wide 8 Tryd.f8 rfl rfl rfl rfl rfl rfl rfl ⟨rfl,rfl,rfl,rfl,rfl⟩ rfl rfl rfl rfl rfl (by kernel_rfl) Tryd.func8 (by kernel_rfl)
    (of_decide_eq_true (by kernel_rfl)) (by unfold Func.isWrapper; first | (rw [if_pos (by decide +kernel)]; kernel_rfl) | (rw [if_neg (by decide +kernel)]; exact ⟨rfl,rfl⟩))
    (fun os started H enc _ => judgeParts_lifted os started H enc)
theorem judgeParts_card:Rows.JudgePartsCardSaid :=
  Claim7.holds_tied_plain_at .later [] [.data] true (true,"3fb1a59f5e0f12d127acb8c01454a5b32ea77146a6bd3a3d5f79d791d9ca69cc") false
    judgeParts_holds (fun _ h => by cases h) (by kernel_rfl) (fun _ h => by cases h) judgeParts_row_tie rfl ⟨rfl,rfl⟩ (by kernel_rfl) rfl
    (fun f fn hf hfn => by
      obtain rfl:f = 8:=Option.some.inj ((show Tryd.prog.funcNamed "folkmoot/folkmootlaw19.JudgeParts" = some 8 by kernel_rfl).symm.trans hf) |>.symm
      obtain rfl:fn = Tryd.f8:=(Option.some.inj (Tryd.func8.symm.trans hfn)).symm
      exact ⟨by kernel_rfl,fun j t ht => by
        rw [Tryd.params8] at ht
        have hm:t ∈ [5,38,5]:=by simpa using Array.mem_of_getElem? ht
        have hall:([5,38,5].all fun u => !Tryd.prog.wantsStandIn u) = true:=by kernel_rfl
        exact (show Tryd.prog.wantsStandIn t = false by simpa using List.all_eq_true.1 hall t hm)⟩)
    (by kernel_rfl)
end Go.Proofs.YtnikcgcbkdeeeaaDoor
