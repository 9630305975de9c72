/- Steps of the proofs over the functions of this seat, printed by a program (gen.py) and checked by Lean. -/
import Derived.Test.YtlfihfmmhhcigaaRows
import Derived.Test.YtlfihfmmhhcigaaW02
import Derived.Test.YtlfihfmmhhcigaaW12
set_option linter.unusedVariables false
set_option linter.unusedSimpArgs false
namespace Go.Proofs.Ytlfihfmmhhcigaa
open Go Go.FM Go.Proofs Go.ChangeShapes Go.WideShapes Go.ChangeAt Go.RowKit
set_option maxRecDepth 100000 in
theorem frameKeeps_lifted (os:Os) (started:os.Started) (H:Type) (enc:TypeId × Value → H) (F:Stop.Interp) :
    ReturnsInHanded {} Try.checked os 8 .any ((Rows.OpenSpec.upto Rows.frameKeepsSpec).pre6 enc Try.prog Try.f8 Rows.frameKeepsUptoRow.domain false) (((Rows.OpenSpec.upto Rows.frameKeepsSpec).at F).post enc Try.prog Try.f8 false true false false):=by
  refine returnsInHanded_of_cond_sized (C:=Try.checked) (s:=Rows.OpenSpec.upto Rows.frameKeepsSpec) (k:=Rows.uptoSmall) rfl own started (by kernel_rfl) Try.func8
    (OpenSpec.witness (enc:=enc) (C:=Try.checked) (s:=Rows.OpenSpec.upto Rows.frameKeepsSpec) (k:=Rows.uptoSmall) rfl false ⟨#[],#[.agg #[.int .u8 0,.int .i64 0,.int .u64 0,.int .i64 0,.int .u16 0,.int .u64 0,.int .i64 0,.int .u64 0,.int .i64 0,.slice none 0 0,.int .u64 0,.slice none 0 0,.slice none 0 0,.int .u64 0,.int .u64 0]],[]⟩ 8 (by kernel_rfl) (by kernel_rfl) (by kernel_rfl) (x:=([.agg [.lit (.int .u8 0),.lit (.int .i64 0),.agg [.lit (.int .u64 0),.lit (.int .i64 0)],.lit (.int .u16 0),.agg [.lit (.int .u64 0),.lit (.int .i64 0)],.agg [.lit (.int .u64 0),.lit (.int .i64 0)],.nil,.lit (.int .u64 0),.nil,.nil,.lit (.int .u64 0),.lit (.int .u64 0)]],[],[])) (by kernel_rfl) rfl (by kernel_rfl)) ?_
  intro W base args ds gs before hval0 hW hcnd hk hsz0 _
  have hsz:(DataW.weightsEach Try.prog (Try.f8.params.toList ++ Rows.frameKeepsSpec.plain.varTypes Try.prog) (ds ++ gs)).all (· ≤ reachBytes) = true:=hsz0
  have hval:∀ (j:Nat) t v,Try.f8.params[j]? = some t → args[j]? = some v → Value.okWide Try.prog W .any base t v:=hval0
  refine row_calls (enc:=enc) laidOut (by kernel_rfl) rfl Try.underlying4 rfl (by intro ds hd; match ds,hd with | [_],_ => rfl) hW ?_
  obtain ⟨p,q,hA0,hV,rfl,hfz,hnd⟩:=hW
  have hA:DataW.TrodAll enc Try.prog W 0 (fun _ => true) true Try.f8.params.toList args.toList ds p:=hA0
  rw [Try.params8] at hA hval hsz
  obtain ⟨v0,vs0,d0,ds0,p0,q0,hargs,rfl,rfl,h0,r0⟩:=trodAll_cons hA
  obtain ⟨rfl,rfl,rfl⟩:=trodAll_nil r0
  obtain rfl:args = #[v0]:=by cases args; simp_all
  obtain ⟨rfl,rfl⟩:=trodVars_none hV
  have hbk:=of_decide_eq_true hk
  simp only [List.append_nil,Rows.uptoBulkAll] at hbk
  obtain ⟨a0,c0,rfl,b0,z0⟩:=argz_st (d:=kFrame) blk Try.underlying30 opnz30 (hval 0 30 v0 rfl rfl) h0 hsz (j:=0) rfl rfl
  have g0:sizeF a0 ≤ 1048576:=by rw [size_zFr]; omega
  clear hA0 hval0 hsz0 hsz
  refine (frameKeeps_spec (St.of W) a0 b0 g0 (fr_fb b0 g0)).mono fun e W' h => ?_
  exact ⟨h.1,_,h.2⟩
theorem frameKeepsUpto_holds:Rows.FrameKeepsUptoSaid :=
  OpenClaim.holds_of_cond 8 Try.f8 rfl rfl rfl rfl rfl rfl rfl ⟨rfl,rfl,rfl,rfl,rfl⟩ rfl rfl rfl rfl rfl (by kernel_rfl) Try.func8 (by kernel_rfl)
    (of_decide_eq_true (by kernel_rfl)) (by unfold Func.isWrapper; first | (rw [if_pos (by decide +kernel)]; kernel_rfl) | (rw [if_neg (by decide +kernel)]; exact ⟨rfl,rfl⟩))
    (fun os started H enc _ F => frameKeeps_lifted os started H enc F)
end Go.Proofs.Ytlfihfmmhhcigaa
