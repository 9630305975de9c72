/- Steps of the proofs over the functions of this seat, printed by a program (gen.py) and checked by Lean. -/
import Derived.Test.YtlfihfmmhhcigaaRows
import Derived.Test.YtlfihfmmhhcigaaW02
import Derived.Test.YtlfihfmmhhcigaaW14
set_option linter.unusedVariables false
set_option linter.unusedSimpArgs false
namespace Go.Proofs.Ytlfihfmmhhcigaa
open Go Go.FM Go.Proofs Go.ChangeShapes Go.WideShapes Go.ChangeAt Go.RowKit
set_option maxRecDepth 100000 in
theorem frameTurned_lifted (os:Os) (started:os.Started) (H:Type) (enc:TypeId × Value → H) (F:Stop.Interp) :
    ReturnsInHanded {} Try.checked os 6 .any ((Rows.OpenSpec.upto Rows.frameTurnedSpec).pre6 enc Try.prog Try.f6 Rows.frameTurnedUptoRow.domain false) (((Rows.OpenSpec.upto Rows.frameTurnedSpec).at F).post enc Try.prog Try.f6 false true false false):=by
  refine returnsInHanded_of_cond_sized (C:=Try.checked) (s:=Rows.OpenSpec.upto Rows.frameTurnedSpec) (k:=Rows.uptoSmall) rfl own started (by kernel_rfl) Try.func6
    (OpenSpec.witness (enc:=enc) (C:=Try.checked) (s:=Rows.OpenSpec.upto Rows.frameTurnedSpec) (k:=Rows.uptoSmall) rfl false ⟨#[],#[.agg #[.int .u8 0,.int .i64 0,.int .u64 0,.int .i64 0,.int .u16 0,.int .u64 0,.int .i64 0,.int .u64 0,.int .i64 0,.slice none 0 0,.int .u64 0,.slice none 0 0,.slice none 0 0,.int .u64 0,.int .u64 0],.int .u16 0,.int .u32 0,.int .u16 0],[]⟩ 8 (by kernel_rfl) (by kernel_rfl) (by kernel_rfl) (x:=([.agg [.lit (.int .u8 0),.lit (.int .i64 0),.agg [.lit (.int .u64 0),.lit (.int .i64 0)],.lit (.int .u16 0),.agg [.lit (.int .u64 0),.lit (.int .i64 0)],.agg [.lit (.int .u64 0),.lit (.int .i64 0)],.nil,.lit (.int .u64 0),.nil,.nil,.lit (.int .u64 0),.lit (.int .u64 0)],.lit (.int .u16 0),.lit (.int .u32 0),.lit (.int .u16 0)],[],[])) (by kernel_rfl) rfl (by kernel_rfl)) ?_
  intro W base args ds gs before hval0 hW hcnd hk hsz0 _
  have hsz:(DataW.weightsEach Try.prog (Try.f6.params.toList ++ Rows.frameTurnedSpec.plain.varTypes Try.prog) (ds ++ gs)).all (· ≤ reachBytes) = true:=hsz0
  have hval:∀ (j:Nat) t v,Try.f6.params[j]? = some t → args[j]? = some v → Value.okWide Try.prog W .any base t v:=hval0
  refine row_calls (enc:=enc) laidOut (by kernel_rfl) rfl Try.underlying4 rfl (by intro ds hd; match ds,hd with | [_,_,_,_],_ => rfl) hW ?_
  obtain ⟨p,q,hA0,hV,rfl,hfz,hnd⟩:=hW
  have hA:DataW.TrodAll enc Try.prog W 0 (fun _ => true) true Try.f6.params.toList args.toList ds p:=hA0
  rw [Try.params6] at hA hval hsz
  obtain ⟨v0,vs0,d0,ds0,p0,q0,hargs,rfl,rfl,h0,r0⟩:=trodAll_cons hA
  obtain ⟨v1,vs1,d1,ds1,p1,q1,rfl,rfl,rfl,h1,r1⟩:=trodAll_cons r0
  obtain ⟨v2,vs2,d2,ds2,p2,q2,rfl,rfl,rfl,h2,r2⟩:=trodAll_cons r1
  obtain ⟨v3,vs3,d3,ds3,p3,q3,rfl,rfl,rfl,h3,r3⟩:=trodAll_cons r2
  obtain ⟨rfl,rfl,rfl⟩:=trodAll_nil r3
  obtain rfl:args = #[v0,v1,v2,v3]:=by cases args; simp_all
  obtain ⟨rfl,rfl⟩:=trodVars_none hV
  have hbk:=of_decide_eq_true hk
  simp only [List.append_nil,Rows.uptoBulkAll] at hbk
  obtain ⟨a0,c0,rfl,b0,z0⟩:=argz_st (d:=kFrame) blk Try.underlying30 opnz30 (hval 0 30 v0 rfl rfl) h0 hsz (j:=0) rfl rfl
  obtain ⟨a1,rfl,b1⟩:=open_nat Try.underlying25 rfl (hval 1 25 v1 rfl rfl) h1
  obtain ⟨a2,rfl,b2⟩:=open_nat Try.underlying45 rfl (hval 2 45 v2 rfl rfl) h2
  obtain ⟨a3,rfl,b3⟩:=open_nat Try.underlying25 rfl (hval 3 25 v3 rfl rfl) h3
  have g0:sizeF a0 ≤ 1048576:=by rw [size_zFr]; omega
  clear hA0 hval0 hsz0 hsz
  refine (frameTurned_spec (St.of W) a0 b0 a1 b1 a2 b2 a3 b3 g0 (fr_fb b0 g0)).mono fun e W' h => ?_
  exact ⟨h.1,_,h.2⟩
theorem frameTurnedUpto_holds:Rows.FrameTurnedUptoSaid :=
  OpenClaim.holds_of_cond 6 Try.f6 rfl rfl rfl rfl rfl rfl rfl ⟨rfl,rfl,rfl,rfl,rfl⟩ rfl rfl rfl rfl rfl (by kernel_rfl) Try.func6 (by kernel_rfl)
    (of_decide_eq_true (by kernel_rfl)) (by unfold Func.isWrapper; first | (rw [if_pos (by decide +kernel)]; kernel_rfl) | (rw [if_neg (by decide +kernel)]; exact ⟨rfl,rfl⟩))
    (fun os started H enc _ F => frameTurned_lifted os started H enc F)
end Go.Proofs.Ytlfihfmmhhcigaa
