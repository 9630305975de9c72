/- Steps of the proofs over the functions of this seat, printed by a program (gen.py) and checked by Lean. -/
import Derived.Test.YtcccaihjgoaehaaDoorTie
import Derived.Test.YtcccaihjgoaehaaDoorCards
import Derived.SevenTiedAt
import Derived.Test.YtcccaihjgoaehaaDoorW02
import Derived.Test.YtcccaihjgoaehaaDoorW12
set_option linter.unusedVariables false
set_option linter.unusedSimpArgs false
set_option maxRecDepth 100000
namespace Go.Proofs.YtcccaihjgoaehaaDoor
open Go Go.FM Go.Proofs Go.ChangeShapes Go.WideShapes Go.ChangeAt Go.RowKit
set_option maxRecDepth 100000 in
theorem memberSettles_lifted (os:Os) (started:os.Started) (H:Type) (enc:TypeId × Value → H) :
    ReturnsInHanded {} Tryd.checked os 7 .any (fun w args => (Rows.memberSettlesSpec.pre enc Tryd.prog Tryd.f7 [] false w args∧laidMetH Tryd.prog [("math/bits.deBruijn32tab",Rows.laid_math_bits_deBruijn32tab)] w)∧sizedMet enc Tryd.prog Tryd.f7 (OpenSpec.ofChange Rows.memberSettlesSpec) false w args)
      (Rows.memberSettlesSpec.post enc Tryd.prog Tryd.f7 false true false false):=by
  refine returnsInHanded_of_change_and (C:=Tryd.checked) (X:=fun w _ => laidMetH Tryd.prog [("math/bits.deBruijn32tab",Rows.laid_math_bits_deBruijn32tab)] w) (fun _ _ _ hh h => h.of_heap hh) own started (by kernel_rfl) Tryd.func7
    (ChangeSpec.witness_shaped (enc:=enc) (C:=Tryd.checked) (os:=os) (X:=fun w _ => laidMetH Tryd.prog [("math/bits.deBruijn32tab",Rows.laid_math_bits_deBruijn32tab)] w) false (World.doorLaid Tryd.prog 400 os) #[.int .u8 0,.slice none 0 0] 8 rfl (World.shaped_of_RefB (by kernel_rfl) (by kernel_rfl)) (by kernel_rfl) (by kernel_rfl) (by kernel_rfl) (door_met os _)) ?_
  intro W base args ds gs before hval0 hW hcnd hsz0 hL _
  have hsz:(DataW.weightsEach Tryd.prog (Tryd.f7.params.toList ++ Rows.memberSettlesSpec.plain.varTypes Tryd.prog) (ds ++ gs)).all (· ≤ reachBytes) = true:=hsz0
  have hval:∀ (j:Nat) t v,Tryd.f7.params[j]? = some t → args[j]? = some v → Value.okWide Tryd.prog W .any base t v:=hval0
  refine row_calls (enc:=enc) laidOut (by kernel_rfl) rfl Tryd.underlying4 rfl (by intro ds hd; match ds,hd with | [_,_],_ => rfl) hW ?_
  obtain ⟨p,q,hA0,hV,rfl,hfz,hnd⟩:=hW
  have hA:DataW.TrodAll enc Tryd.prog W 0 (fun _ => true) true Tryd.f7.params.toList args.toList ds p:=hA0
  rw [Tryd.params7] at hA hval hsz
  obtain ⟨v0,vs0,d0,ds0,p0,q0,hargs,rfl,rfl,h0,r0⟩:=trodAll_cons hA
  obtain ⟨v1,vs1,d1,ds1,p1,q1,rfl,rfl,rfl,h1,r1⟩:=trodAll_cons r0
  obtain ⟨rfl,rfl,rfl⟩:=trodAll_nil r1
  obtain rfl:args = #[v0,v1]:=by cases args; simp_all
  obtain ⟨rfl,rfl⟩:=trodVars_none hV
  have ht:Tab (Hp.of W):=of_laid hL
  obtain ⟨a0,rfl,b0⟩:=open_nat Tryd.underlying5 rfl (hval 0 5 v0 rfl rfl) h0
  obtain ⟨A1,n1,c1,a1,rfl,b1⟩:=arg_sl (d:=kMove) Tryd.underlying57 opn57 (hval 1 57 v1 rfl rfl) h1 hsz (j:=1) rfl rfl
  clear hA0 hval0 hsz0 hsz
  refine (settles_law (St.of W) a0 b0 a1 b1 ht).mono fun e W' h => ?_
  exact ⟨h.1,_,h.2⟩
theorem memberSettles_holds:Rows.MemberSettlesSaid :=
  OpenClaim.holds_of_wide 7 Tryd.f7 rfl rfl rfl rfl rfl rfl rfl ⟨rfl,rfl,rfl,rfl,rfl⟩ rfl rfl rfl rfl rfl (by kernel_rfl) Tryd.func7 (by kernel_rfl)
    (of_decide_eq_true (by kernel_rfl)) (by unfold Func.isWrapper; first | (rw [if_pos (by decide +kernel)]; kernel_rfl) | (rw [if_neg (by decide +kernel)]; exact ⟨rfl,rfl⟩))
    (fun os started H enc _ => memberSettles_lifted os started H enc)
theorem memberSettles_card:Rows.MemberSettlesCardSaid :=
  Claim7.holds_tied_plain_at .later [] [.data] true (true,"c81093bc458e289526391ec6331f476d47f55634b262fbf1f113b4eeb18b5051") false
    memberSettles_holds (fun _ h => by cases h) (by kernel_rfl) (fun _ h => by cases h) memberSettles_row_tie rfl ⟨rfl,rfl⟩ (by kernel_rfl) rfl
    (fun f fn hf hfn => by
      obtain rfl:f = 7:=Option.some.inj ((show Tryd.prog.funcNamed "folkmoot/folkmootlaw13.MemberSettles" = some 7 by kernel_rfl).symm.trans hf) |>.symm
      obtain rfl:fn = Tryd.f7:=(Option.some.inj (Tryd.func7.symm.trans hfn)).symm
      exact ⟨by kernel_rfl,fun j t ht => by
        rw [Tryd.params7] at ht
        have hm:t ∈ [5,57]:=by simpa using Array.mem_of_getElem? ht
        have hall:([5,57].all fun u => !Tryd.prog.wantsStandIn u) = true:=by kernel_rfl
        exact (show Tryd.prog.wantsStandIn t = false by simpa using List.all_eq_true.1 hall t hm)⟩)
    (by kernel_rfl)
end Go.Proofs.YtcccaihjgoaehaaDoor
