/- From a law's walk to its row: every argument reads behind the call as it did, and arguments of the plain kinds opened. -/
import Derived.Test.YtnikcgcbkdeeeaaDoorFmE
import Derived.WalkKit
import Derived.ProofKit
import Derived.OpenShut
import Derived.ShutString
import Derived.ChangeOld
import Derived.Below
import Derived.Carry
import Derived.SizedLaws
import Derived.LaidMore
import Derived.Stop.Joined
import Derived.MakeChecks
set_option linter.unusedVariables false
set_option linter.unusedSimpArgs false
namespace Go.FM
open Go Go.ChangeShapes Go.WideShapes Go.ChangeAt Go.RowKit

/-- All that a world holds, as what stays. -/
def Hp.of (W : World) : Hp := ⟨fun b => W.heap[b]?, W.os, W.output, W.tape⟩
theorem St.of (W : World) : St (Hp.of W) W [] := ⟨rfl, rfl, rfl, fun _ _ h => h, fun _ h => absurd h List.not_mem_nil, List.Pairwise.nil⟩
theorem St.below {W W' : World} {L : List Res} (h : St (Hp.of W) W' L) : Below W.heap.size W W' := by
  have hb : ∀ k, k < W.heap.size → W'.heap[k]? = W.heap[k]? := fun k hk => by
    have e : W.heap[k]? = some W.heap[k] := Array.getElem?_eq_getElem hk
    exact (h.fz k _ e).trans e.symm
  refine ⟨h.os, h.tape, h.out, ?_, hb⟩
  by_cases h0 : W.heap.size = 0
  · omega
  · have h1 := hb (W.heap.size - 1) (by omega)
    have e : W.heap[W.heap.size - 1]? = some W.heap[W.heap.size - 1] := Array.getElem?_eq_getElem (by omega)
    rw [e] at h1
    have := (Array.getElem?_eq_some_iff.1 h1).1
    omega

section
variable {H : Type} {enc : TypeId × Value → H} {P : Program} {W W' : World}
/-- All arguments read as they did. -/
theorem trodAll_stays (hl : laidOutB P = true) (hb : Below W.heap.size W W') : ∀ {ts : List TypeId} {vs : List Value} {ds : List (DataW H)} {ps : List MemPlace},
    (ts.all fun t => P.readableRec t && decide (t < P.types.size)) = true → DataW.TrodAll enc P W 0 (fun _ => true) true ts vs ds ps →
    DataW.TrodAll enc P W' 0 (fun b => decide (b < W.heap.size)) true ts vs ds ps
  | [], [], [], _, _, h => h
  | t :: ts, v :: vs, d :: ds, _, hall, ⟨p, q, h, hs, e⟩ => by
    rw [List.all_cons, Bool.and_eq_true, Bool.and_eq_true] at hall
    refine ⟨p, q, Below.trod hl hall.1.1 (of_decide_eq_true hall.1.2) h hb ?_, trodAll_stays hl hb hall.2 hs, e⟩
    obtain ⟨m, hm⟩ := h
    exact DataW.trod_lt m _ _ _ hm
/-- What the row asks of a law that answers yes, when no old memory has turned. -/
theorem row_post {fn : Func} {s : ChangeSpec} {B : TypeId} {args : Array Value} {ds gs : List (DataW H)} {before : List MemPlace} (hl : laidOutB P = true)
    (hall : (fn.params.toList.all fun t => P.readableRec t && decide (t < P.types.size)) = true) (hr : fn.resultTypes = #[B]) (hB : P.underlying B = some .bool) (hvars : s.vars = [])
    (hfn : ∀ ds : List (DataW H), ds.length = fn.params.toList.length → s.fn H ds = { results := [.lit (.bool true)], args := ds })
    (hW : DataW.Whole enc P fn.params.toList s.vars false W args.toList ds gs before) (bel : Below W.heap.size W W') :
    s.post enc P fn false true false false W args (.bool true) W' := by
  obtain ⟨p, q, hA, hV, rfl, hfz, hnd⟩ := id hW
  rw [hvars] at hV
  obtain ⟨rfl, rfl⟩ := trodVars_none hV
  have hlen : ∀ {ts : List TypeId} {vs : List Value} {ds : List (DataW H)} {ps : List MemPlace}, DataW.TrodAll enc P W 0 (fun _ => true) true ts vs ds ps → ds.length = ts.length := by
    intro ts
    induction ts with
    | nil => intro vs ds ps h; obtain ⟨_, rfl, _⟩ := trodAll_nil h; rfl
    | cons t ts ih => intro vs ds ps h; obtain ⟨_, _, _, _, _, _, _, rfl, _, _, h2⟩ := trodAll_cons h; simp [ih h2]
  have e := hfn (ds ++ []) (by simpa using hlen hA)
  refine ⟨ds, [], _, [], p, [], hW, ?_, ?_, ?_, bel.frame _, fun h => by cases h⟩
  · rw [e, hr]
    exact trodAll_mk1 (shut_bool hB _)
  · rw [e]
    simp only [List.append_nil]
    exact trodAll_stays hl bel hall hA
  · rw [e, hvars]
    rfl
/-- .. and so the law's walk is what the row asks. -/
theorem row_calls {f : FuncId} {fn : Func} {s : ChangeSpec} {B : TypeId} {args : Array Value} {ds gs : List (DataW H)} {before : List MemPlace} (hl : laidOutB P = true)
    (hall : (fn.params.toList.all fun t => P.readableRec t && decide (t < P.types.size)) = true) (hr : fn.resultTypes = #[B]) (hB : P.underlying B = some .bool) (hvars : s.vars = [])
    (hfn : ∀ ds : List (DataW H), ds.length = fn.params.toList.length → s.fn H ds = { results := [.lit (.bool true)], args := ds })
    (hW : DataW.Whole enc P fn.params.toList s.vars false W args.toList ds gs before)
    (hc : Calls P f args W fun e W' => e = .returned (.bool true) ∧ ∃ L, St (Hp.of W) W' L) :
    Calls P f args W fun e W' => ∃ v, e = .returned v ∧ s.post enc P fn false true false false W args v W' := by
  refine hc.mono fun e W' ⟨he, L, h⟩ => ?_
  subst he
  exact ⟨_, rfl, row_post hl hall hr hB hvars hfn hW h.below⟩
end

/-! ### arguments of the plain kinds -/
section
variable {H : Type} {enc : TypeId × Value → H} {P : Program} {w : World} {base : Nat} {spare : Nat → Bool} {held : Bool} {r : Reach} {b0 : Nat} {t : TypeId} {v : Value} {d : DataW H} {ps : List MemPlace}
theorem wf_nat {k : IntKind} {n : Int} (hk : k.signed = false) (h : (Lit.int k n).wf = true) : ∃ m : Nat, n = (m : Int) ∧ m < 2 ^ k.bits := by
  cases k <;> simp [Lit.wf, IntKind.min, IntKind.max, IntKind.signed, IntKind.bits] at h hk ⊢ <;> exact ⟨n.toNat, by omega, by omega⟩
theorem open_nat {k : IntKind} (ht : P.underlying t = some (.int k)) (hk : k.signed = false) (hval : Value.okWide P w r b0 t v) (hd : DataW.Trod enc P w base spare held t v d ps) :
    ∃ n : Nat, v = .int k ((n : Nat) : Int) ∧ n < 2 ^ k.bits := by
  obtain ⟨n, rfl, _, _, hw⟩ := open_int ht hval hd
  obtain ⟨m, rfl, hm⟩ := wf_nat hk hw
  exact ⟨m, rfl, hm⟩
theorem open_i64 (ht : P.underlying t = some (.int .i64)) (hval : Value.okWide P w r b0 t v) (hd : DataW.Trod enc P w base spare held t v d ps) :
    ∃ n : Int, v = .int .i64 n ∧ -9223372036854775808 ≤ n ∧ n ≤ 9223372036854775807 := by
  obtain ⟨n, rfl, _, _, hw⟩ := open_int ht hval hd
  simp [Lit.wf, IntKind.min, IntKind.max, IntKind.signed, IntKind.bits] at hw
  exact ⟨n, rfl, by omega, by omega⟩
/-- A struct of one whole number without a sign and one with. -/
theorem open_pair {f0 f1 : Field} {k : IntKind} (ht : P.underlying t = some (.struct #[f0, f1])) (h0 : P.underlying f0.type = some (.int k)) (h1 : P.underlying f1.type = some (.int .i64)) (hk : k.signed = false)
    (o0 : f0.offset = 0) (o1 : f1.offset = 1) (c0 : P.cellsOf f0.type = 1) (c1 : P.cellsOf f1.type = 1) (ct : P.cellsOf t = 2)
    (hval : Value.okWide P w r b0 t v) (hd : DataW.Trod enc P w base spare held t v d ps) :
    ∃ (n : Nat) (p : Int), v = .agg #[.int k ((n : Nat) : Int), .int .i64 p] ∧ n < 2 ^ k.bits ∧ -9223372036854775808 ≤ p ∧ p ≤ 9223372036854775807 := by
  obtain ⟨cs, rfl, hs⟩ := okWide_struct ht hval
  obtain ⟨fuel, hf⟩ := hd
  obtain ⟨xs, n, rfl, hx, hlen, hxs, hfs⟩ := DataW.trod_struct ht hf
  simp only [Value.cells] at hlen hfs
  rw [ct] at hs
  obtain ⟨cs⟩ := cs
  match cs, hs with
  | [a, b], _ =>
    match xs, hxs with
    | [x, y], _ =>
      have e0 := hfs 0 f0 rfl
      have e1 := hfs 1 f1 rfl
      rw [o0, c0] at e0
      rw [o1, c1] at e1
      simp only [List.drop_zero, List.take_succ_cons, List.take_zero, List.drop_succ_cons, List.getElem?_cons_zero, List.getElem?_cons_succ] at e0 e1
      obtain ⟨m, ha, _, hwa⟩ := DataW.trod_int h0 e0
      obtain ⟨p, hb, _, hwb⟩ := DataW.trod_int h1 e1
      simp only [List.cons.injEq, and_true] at ha hb
      subst ha hb
      obtain ⟨m, rfl, hm⟩ := wf_nat hk hwa
      simp [Lit.wf, IntKind.min, IntKind.max, IntKind.signed, IntKind.bits] at hwb
      exact ⟨m, p, rfl, hm, by omega, by omega⟩
end
end Go.FM
namespace Go.FM
open Go Go.ChangeShapes Go.WideShapes Go.ChangeAt Go.RowKit
/-- A laid table of bytes lies in memory. -/
theorem laid_bytes {P : Program} {W : World} {name : String} {g t e n : Nat} {ds : List (DataW Unit)} (ns : List Nat) (hg : P.globalNamed name = some g) (ht : (P.globals[g]?).map (·.type) = some t) (hu : P.underlying t = some (.array n e))
    (he : P.underlying e = some (.int .u8)) (hc : P.cellsOf e = 1) (hds : ds = ns.map fun x => .lit (.int .u8 ((x : Nat) : Int))) (h : laidMetH P [(name, .agg ds)] W) :
    ∃ cs E fr, W.heap[g]? = some (.cells cs E fr) ∧ ∀ i, i < n → cs[i]? = some (.int .u8 ((ns.getD i 0 : Nat) : Int)) := by
  subst hds
  rw [MakeChecks.laidMetH_plain _ _ _ (by rfl)] at h
  obtain ⟨ps, ⟨g0, t0, cs0, f0, p0, q0, hg0, ht0, hv0, hd0, _, _⟩, hnd, hfr⟩ := h
  obtain rfl := Option.some.inj (hg.symm.trans hg0)
  obtain rfl := Option.some.inj (ht.symm.trans ht0)
  obtain ⟨xs, m, rfl, hx, hlen, hxn, hel⟩ := DataW.trod_array hu hd0
  simp only [World.var?, hg, Option.bind_some] at hv0
  split at hv0
  · rename_i cs E fr hh
    injection hv0 with hv0
    subst hv0
    refine ⟨cs, E, fr, hh, fun i hi => ?_⟩
    have h1 := hel i hi
    rw [hc, Nat.mul_one] at h1
    have hi2 : i < xs.length := by omega
    rw [List.getElem?_eq_getElem hi2] at h1
    obtain ⟨k, hk, e2, _⟩ := DataW.trod_int he h1
    simp only [Prod.mk.injEq, DataW.agg.injEq] at hx
    have hx1 := congrArg (fun l : List (DataW Unit) => l[i]?) hx.1
    simp only [List.getElem?_map] at hx1
    rw [List.getElem?_eq_getElem hi2] at hx1
    simp only [Option.map_some] at hx1
    rw [e2] at hx1
    cases hn : ns[i]? with
    | none => rw [hn] at hx1; simp at hx1
    | some y =>
      rw [hn] at hx1
      simp at hx1
      have h0 : (List.drop i cs.toList).take 1 = [.int .u8 k] := hk
      have : cs.toList[i]? = some (.int .u8 k) := by
        have := congrArg (fun l : List Value => l[0]?) h0
        simpa [List.getElem?_take, List.getElem?_drop] using this
      rw [Array.getElem?_toList] at this
      rw [this, List.getD_eq_getElem?_getD, hn]
      simp [hx1]
  · cases hv0
end Go.FM
