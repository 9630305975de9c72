/- PROVED: the law IdentOrder of chapter 04 returns true for all arguments; every argument reads behind the call as it read before. Conditions: those of the given row alone (the one table that it names reads as the program's text lays it, which the given tie shows). -/
import Derived.Test.YtdllflllhjaimaaDoorTie
import Derived.Test.YtdllflllhjaimaaDoorCards
import Derived.SevenTiedAt
import Derived.Test.YtdllflllhjaimaaDoorT2r
import Derived.Test.YtdllflllhjaimaaDoorT2dorder
set_option linter.unusedVariables false
set_option linter.unusedSimpArgs false
namespace Go.Proofs.YtdllflllhjaimaaDoor
open Go Go.FM Go.Proofs Go.ChangeShapes Go.WideShapes Go.ChangeAt Go.RowKit
set_option maxRecDepth 100000 in
theorem identOrder_lifted (os : Os) (started : os.Started) (H : Type) (enc : TypeId × Value → H) :
    ReturnsInHanded {} Tryd.checked os 7 .any (fun w args => (Rows.identOrderSpec.pre enc Tryd.prog Tryd.f7 [] false w args ∧ laidMetH Tryd.prog [("math/bits.deBruijn32tab", Rows.laid_math_bits_deBruijn32tab)] w) ∧ sizedMet enc Tryd.prog Tryd.f7 (OpenSpec.ofChange Rows.identOrderSpec) false w args)
      (Rows.identOrderSpec.post enc Tryd.prog Tryd.f7 false true false false) := by
  refine returnsInHanded_of_change_and (C := Tryd.checked) (X := fun w _ => laidMetH Tryd.prog [("math/bits.deBruijn32tab", Rows.laid_math_bits_deBruijn32tab)] w) (fun _ _ _ hh h => h.of_heap hh) own started (by kernel_rfl) Tryd.func7
    (ChangeSpec.witness_shaped (enc := enc) (C := Tryd.checked) (os := os) (X := fun w _ => laidMetH Tryd.prog [("math/bits.deBruijn32tab", Rows.laid_math_bits_deBruijn32tab)] w) false (World.doorLaid Tryd.prog 400 os) #[.agg #[.int .u64 0, .int .i64 0], .agg #[.int .u64 0, .int .i64 0], .agg #[.int .u64 0, .int .i64 0]] 8 rfl (World.shaped_of_RefB (by kernel_rfl) (by kernel_rfl)) (by kernel_rfl) (by kernel_rfl) (by kernel_rfl) (door_met os _)) ?_
  intro W base args ds gs before hval0 hW hcnd hsz0 hL _
  have hval : ∀ (j : Nat) t v, Tryd.f7.params[j]? = some t → args[j]? = some v → Value.okWide Tryd.prog W .any base t v := hval0
  refine row_calls (enc := enc) laidOut (by kernel_rfl) rfl Tryd.underlying4 rfl (by intro ds hd; match ds, hd with | [_, _, _], _ => rfl) hW ?_
  obtain ⟨p, q, hA0, hV, rfl, hfz, hnd⟩ := hW
  have hA : DataW.TrodAll enc Tryd.prog W 0 (fun _ => true) true Tryd.f7.params.toList args.toList ds p := hA0
  rw [Tryd.params7] at hA hval
  obtain ⟨v0, vs0, d0, ds0, p0, q0, hargs, rfl, rfl, h0, r0⟩ := trodAll_cons hA
  obtain ⟨v1, vs1, d1, ds1, p1, q1, rfl, rfl, rfl, h1, r1⟩ := trodAll_cons r0
  obtain ⟨v2, vs2, d2, ds2, p2, q2, rfl, rfl, rfl, h2, r2⟩ := trodAll_cons r1
  obtain ⟨rfl, rfl, rfl⟩ := trodAll_nil r2
  obtain rfl : args = #[v0, v1, v2] := by cases args; simp_all
  have ht : Tab (Hp.of W) := of_laid hL
  obtain ⟨a0, c0, rfl, b0, -, -⟩ := open_pair Tryd.underlying34 Tryd.underlying32 Tryd.underlying3 rfl rfl rfl (by kernel_rfl) (by kernel_rfl) (by kernel_rfl) (hval 0 34 v0 rfl rfl) h0
  obtain ⟨a1, c1, rfl, b1, -, -⟩ := open_pair Tryd.underlying34 Tryd.underlying32 Tryd.underlying3 rfl rfl rfl (by kernel_rfl) (by kernel_rfl) (by kernel_rfl) (hval 1 34 v1 rfl rfl) h1
  obtain ⟨a2, c2, rfl, b2, -, -⟩ := open_pair Tryd.underlying34 Tryd.underlying32 Tryd.underlying3 rfl rfl rfl (by kernel_rfl) (by kernel_rfl) (by kernel_rfl) (hval 2 34 v2 rfl rfl) h2
  clear hA0 hval0 hsz0
  refine (order_spec (St.of W) ht a0 c0 a1 c1 a2 c2).mono fun e W' h => ?_
  exact ⟨h.1, _, h.2⟩
theorem identOrder_holds : Rows.IdentOrderSaid :=
  OpenClaim.holds_of_wide 7 Tryd.f7 rfl rfl rfl rfl rfl rfl rfl ⟨rfl, rfl, rfl, rfl, rfl⟩ rfl rfl rfl rfl rfl (by kernel_rfl) Tryd.func7 (by kernel_rfl)
    (of_decide_eq_true (by kernel_rfl)) (by unfold Func.isWrapper; first | (rw [if_pos (by decide +kernel)]; kernel_rfl) | (rw [if_neg (by decide +kernel)]; exact ⟨rfl, rfl⟩))
    (fun os started H enc _ => identOrder_lifted os started H enc)
#print axioms identOrder_holds
theorem identOrder_card : Rows.IdentOrderCardSaid :=
  Claim7.holds_tied_plain_at .later [] [.data] true (true, "c881b3f035dd85595b7f45ddb074c14f88f8f75eb617e167a961e033ebd05333") false
    identOrder_holds (fun _ h => by cases h) (by kernel_rfl) (fun _ h => by cases h) identOrder_row_tie rfl ⟨rfl, rfl⟩ (by kernel_rfl) rfl
    (fun f fn hf hfn => by
      obtain rfl : f = 7 := Option.some.inj ((show Tryd.prog.funcNamed "folkmoot/folkmootlaw04.IdentOrder" = some 7 by kernel_rfl).symm.trans hf) |>.symm
      obtain rfl : fn = Tryd.f7 := (Option.some.inj (Tryd.func7.symm.trans hfn)).symm
      exact ⟨by kernel_rfl, fun j t ht => by
        rw [Tryd.params7] at ht
        have hm : t ∈ [34, 34, 34] := by simpa using Array.mem_of_getElem? ht
        have hall : ([34, 34, 34].all fun u => !Tryd.prog.wantsStandIn u) = true := by kernel_rfl
        exact (show Tryd.prog.wantsStandIn t = false by simpa using List.all_eq_true.1 hall t hm)⟩)
    (by kernel_rfl)
#print axioms identOrder_card
end Go.Proofs.YtdllflllhjaimaaDoor
