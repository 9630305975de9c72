/- The walk's own rules: frames by a function of slots, one rule an operation. -/
import Derived.WalkKit
import Derived.Deep.QuietTactic
import Derived.BigQuiet
set_option linter.unusedVariables false
set_option linter.unusedSimpArgs false
namespace Go.FM
open Go

/-- A frame's slots as a function. -/
def up (ρ : Nat → Value) (d : Nat) (v : Value) : Nat → Value := fun i => bif Nat.beq i d then v else ρ i
def en (N : Nat) (ρ : Nat → Value) : Act := ⟨((List.range N).map ρ).toArray, []⟩

theorem en_get (N : Nat) (ρ : Nat → Value) (t : Nat) (h : t < N) : (en N ρ).tmps.getD t undef = ρ t := by
  simp [en, Array.getD, h]
theorem en_put (N : Nat) (ρ : Nat → Value) (d : Nat) (v : Value) : (en N ρ).put (some d) v = en N (up ρ d v) := by
  simp only [Act.put, en]
  congr 1
  apply Array.ext_getElem?
  intro i
  simp only [Array.getElem?_setIfInBounds, List.getElem?_toArray, List.getElem?_map, List.size_toArray, List.length_map, List.length_range]
  by_cases hd : d = i
  · subst hd
    by_cases hi : d < N
    · simp [hi, up]
    · simp [hi]
  · have : Nat.beq i d = false := by
      cases h : Nat.beq i d with
      | false => rfl
      | true => exact absurd (Nat.eq_of_beq_eq_true h).symm hd
    simp only [if_neg hd]
    by_cases hi : i < N
    · simp [hi, up, this]
    · simp [hi]
theorem en_put_none (N : Nat) (ρ : Nat → Value) (v : Value) : (en N ρ).put none v = en N ρ := rfl

/-- What an operand holds. -/
def Ev (N : Nat) (ρ : Nat → Value) (x : Operand) (v : Value) : Prop := (en N ρ).eval x = v
theorem Ev.tmp {N : Nat} {ρ : Nat → Value} {t : Nat} {v : Value} (h : Nat.blt t N = true) (e : ρ t = v) : Ev N ρ (.tmp t) v := by
  have h' : t < N := Nat.le_of_ble_eq_true h
  show (en N ρ).tmps.getD t undef = v
  rw [en_get N ρ t h']; exact e
theorem Ev.const {N : Nat} {ρ : Nat → Value} {v : Value} : Ev N ρ (.const v) v := rfl
theorem Ev.func {N : Nat} {ρ : Nat → Value} {f : FuncId} : Ev N ρ (.func f) (.func (.func f) #[] #[]) := rfl
theorem Ev.global {N : Nat} {ρ : Nat → Value} {g : Nat} : Ev N ρ (.global g) (.pointer (some ⟨g, 0, none⟩)) := rfl

/-! ### entering, leaving -/
theorem enter {P : Program} {f : FuncId} {fn : Func} {c : Code} {args : List Value} {w : World} {R : Ending → World → Prop} {N : Nat}
    (hf : P.funcs[f]? = some fn) (hb : fn.body = some c) (hN : fn.ntmps = N) (hlen0 : Nat.ble args.length N = true)
    (h : c.wp P (bodyPost P fn R) (en N (fun i => args.getD i undef)) w) : Calls P f args.toArray w R := by
  have hlen : args.length ≤ N := Nat.le_of_ble_eq_true hlen0
  refine calls_of_wp hf hb ?_
  have : ({ tmps := args.toArray ++ Array.replicate (fn.ntmps - args.toArray.size) undef, defers := [] } : Act) = en N (fun i => args.getD i undef) := by
    simp only [en]
    congr 1
    apply Array.ext_getElem?
    intro i
    subst hN
    simp only [List.size_toArray, Array.getElem?_append, List.getElem?_toArray, List.getElem?_map]
    by_cases h1 : i < args.length
    · have h2 : i < fn.ntmps := by omega
      simp [h1, h2, List.getD_eq_getElem?_getD]
    · by_cases h2 : i < fn.ntmps
      · have h3 : i - args.length < fn.ntmps - args.length := by omega
        simp [h1, h2, h3, List.getD_eq_getElem?_getD, Array.getElem?_replicate]
      · have h3 : ¬ i - args.length < fn.ntmps - args.length := by omega
        simp [h1, h2, h3, Array.getElem?_replicate]
  rw [this]
  exact h
theorem leave_ret {P : Program} {fn : Func} {R : Ending → World → Prop} {N : Nat} {ρ : Nat → Value} {w : World} {v : Value}
    (hr : (results fn (en N ρ).tmps).run P w = .ok v w) (h : R (.returned v) w) : bodyPost P fn R .ret (en N ρ) w := ⟨rfl, v, hr, h⟩
theorem leave_end {P : Program} {fn : Func} {R : Ending → World → Prop} {N : Nat} {ρ : Nat → Value} {w : World} {v : Value}
    (hr : (results fn (en N ρ).tmps).run P w = .ok v w) (h : R (.returned v) w) : bodyPost P fn R .normal (en N ρ) w := ⟨rfl, v, hr, h⟩
/-- A result's value. -/
def Rv (P : Program) (N : Nat) (ρ : Nat → Value) (w : World) : ResultVar → Value → Prop
  | .tmp t, v => t < N ∧ ρ t = v
  | .cell a t, v => ∃ p, a < N ∧ ρ a = .pointer (some p) ∧ (loadVar t p).run P w = .ok v w
theorem res_none {P : Program} {fn : Func} {N : Nat} {ρ : Nat → Value} {w : World} (h : fn.results = #[]) : (results fn (en N ρ).tmps).run P w = .ok (.tuple #[]) w := by
  simp [results, h]
def resOne (P : Program) (tmps : Array Value) : ResultVar → Sem Value
  | .tmp t => pure (tmps.getD t undef)
  | .cell a t => do loadVar t (← asAddr (tmps.getD a undef))
theorem resOne_run {P : Program} {N : Nat} {ρ : Nat → Value} {w : World} {r : ResultVar} {v : Value} (h : Rv P N ρ w r v) : (resOne P (en N ρ).tmps r).run P w = .ok v w := by
  cases r with
  | tmp t => obtain ⟨h1, rfl⟩ := h; simp [resOne, en_get N ρ t h1]
  | cell a t => obtain ⟨p, h1, h2, h3⟩ := h; simp [resOne, en_get N ρ a h1, h2, asAddr, h3]
theorem res_eq (P : Program) (fn : Func) (tmps : Array Value) : results fn tmps = (do
    let vs ← fn.results.mapM (resOne P tmps)
    pure (if h : vs.size = 1 then vs[0] else .tuple vs)) := by
  unfold results
  congr 1
def Rvs (P : Program) (N : Nat) (ρ : Nat → Value) (w : World) : List ResultVar → List Value → Prop
  | [], [] => True
  | r :: rs, v :: vs => Rv P N ρ w r v ∧ Rvs P N ρ w rs vs
  | _, _ => False
theorem res_list {P : Program} {N : Nat} {ρ : Nat → Value} {w : World} : ∀ (rs : List ResultVar) (vs : List Value), Rvs P N ρ w rs vs → (rs.mapM (resOne P (en N ρ).tmps)).run P w = .ok vs w
  | [], [], _ => by simp
  | r :: rs, v :: vs, ⟨h, hs⟩ => by
    simp [List.mapM_cons, resOne_run h, res_list rs vs hs]
theorem res_all {P : Program} {fn : Func} {N : Nat} {ρ : Nat → Value} {w : World} {rs : List ResultVar} {vs : List Value} (h : fn.results = rs.toArray) (hv : Rvs P N ρ w rs vs) :
    (results fn (en N ρ).tmps).run P w = .ok (if h : vs.toArray.size = 1 then vs.toArray[0] else .tuple vs.toArray) w := by
  rw [res_eq P, h]
  simp [List.mapM_toArray, res_list rs vs hv]
theorem res_one {P : Program} {fn : Func} {N : Nat} {ρ : Nat → Value} {w : World} {r : ResultVar} {v : Value} (h : fn.results = #[r]) (hv : Rv P N ρ w r v) : (results fn (en N ρ).tmps).run P w = .ok v w := by
  have := res_all (P := P) (w := w) (rs := [r]) (vs := [v]) h ⟨hv, trivial⟩
  simpa using this
theorem res_two {P : Program} {fn : Func} {N : Nat} {ρ : Nat → Value} {w : World} {r s : ResultVar} {v u : Value} (h : fn.results = #[r, s]) (hv : Rv P N ρ w r v) (hu : Rv P N ρ w s u) :
    (results fn (en N ρ).tmps).run P w = .ok (.tuple #[v, u]) w := by
  have := res_all (P := P) (w := w) (rs := [r, s]) (vs := [v, u]) h ⟨hv, hu, trivial⟩
  simpa using this
theorem res_three {P : Program} {fn : Func} {N : Nat} {ρ : Nat → Value} {w : World} {r s t : ResultVar} {v u x : Value} (h : fn.results = #[r, s, t]) (hv : Rv P N ρ w r v) (hu : Rv P N ρ w s u) (hx : Rv P N ρ w t x) :
    (results fn (en N ρ).tmps).run P w = .ok (.tuple #[v, u, x]) w := by
  have := res_all (P := P) (w := w) (rs := [r, s, t]) (vs := [v, u, x]) h ⟨hv, hu, hx, trivial⟩
  simpa using this
theorem Rv.mk {P : Program} {N : Nat} {ρ : Nat → Value} {w : World} {t : Nat} {v : Value} (h : Nat.blt t N = true) (e : ρ t = v) : Rv P N ρ w (.tmp t) v := ⟨Nat.le_of_ble_eq_true h, e⟩
theorem Rv.mkCell {P : Program} {N : Nat} {ρ : Nat → Value} {w : World} {t ty : Nat} {p : Addr} {v : Value} (h : Nat.blt t N = true) (e : ρ t = .pointer (some p)) (hl : (loadVar ty p).run P w = .ok v w) : Rv P N ρ w (.cell t ty) v := ⟨p, Nat.le_of_ble_eq_true h, e, hl⟩

/-! ### code -/
section
variable {P : Program} {Q : Exit → Act → World → Prop} {N : Nat} {ρ : Nat → Value} {w : World}
theorem c_seq {x y : Code} (h : x.wp P (Exit.then (y.wp P Q) Q) (en N ρ) w) : (Code.seq x y).wp P Q (en N ρ) w := wp_seq h
theorem c_block {id : Nat} {c : Code} (h : c.wp P (Exit.inBlock id Q) (en N ρ) w) : (Code.block id c).wp P Q (en N ρ) w := wp_block h
theorem c_skip (h : Q .normal (en N ρ) w) : Code.skip.wp P Q (en N ρ) w := wp_skip h
theorem c_exit {id : Nat} (h : Q (.exit id) (en N ρ) w) : (Code.exit id).wp P Q (en N ρ) w := wp_exit h
theorem c_ret (h : Q .ret (en N ρ) w) : Code.ret.wp P Q (en N ρ) w := wp_ret h
theorem c_cond {c : Operand} {x y : Code} {t : Bool} (hc : Ev N ρ c (.bool t)) (ht : t = true → x.wp P Q (en N ρ) w) (hf : t = false → y.wp P Q (en N ρ) w) : (Code.cond c x y).wp P Q (en N ρ) w :=
  wp_cond_split hc ht hf
theorem c_cond_t {c : Operand} {x y : Code} {t : Bool} (hc : Ev N ρ c (.bool t)) (h : t = true) (ht : x.wp P Q (en N ρ) w) : (Code.cond c x y).wp P Q (en N ρ) w :=
  wp_cond_split hc (fun _ => ht) (fun h' => by rw [h] at h'; cases h')
theorem c_cond_f {c : Operand} {x y : Code} {t : Bool} (hc : Ev N ρ c (.bool t)) (h : t = false) (hf : y.wp P Q (en N ρ) w) : (Code.cond c x y).wp P Q (en N ρ) w :=
  wp_cond_split hc (fun h' => by rw [h] at h'; cases h') (fun _ => hf)
theorem c_region {id : Nat} {l : List Oper} (h : wpList P l.toArray Q l (en N ρ) w) : (Code.region id l.toArray false).wp P Q (en N ρ) w := wp_region_lit h
theorem c_nil {ops : Array Oper} (h : Q .normal (en N ρ) w) : wpList P ops Q [] (en N ρ) w := h
theorem n_then {K : Act → World → Prop} {a : Act} (h : K a w) : Exit.then K Q .normal a w := h
theorem n_block {id : Nat} {a : Act} (h : Q .normal a w) : Exit.inBlock id Q .normal a w := h
theorem x_then {K : Act → World → Prop} {id : Nat} {a : Act} (h : Q (.exit id) a w) : Exit.then K Q (.exit id) a w := h
theorem x_here {id : Nat} {a : Act} (h : Q .normal a w) : Exit.inBlock id Q (.exit id) a w := by simpa [Exit.inBlock] using h
theorem x_block {id id' : Nat} {a : Act} (hn : Nat.beq id' id = false) (h : Q (.exit id') a w) : Exit.inBlock id Q (.exit id') a w := by
  have : id' ≠ id := fun e => by rw [e] at hn; simp at hn
  simpa [Exit.inBlock, this] using h
theorem r_then {K : Act → World → Prop} {a : Act} (h : Q .ret a w) : Exit.then K Q .ret a w := h
theorem r_block {id : Nat} {a : Act} (h : Q .ret a w) : Exit.inBlock id Q .ret a w := h
/-- A loop: what holds at each round's head, with a number that every round lowers. -/
theorem c_loop {c : Code} (I : (Nat → Value) → World → Nat → Prop) (k0 : Nat) (h0 : I ρ w k0)
    (round : ∀ ρ w k, I ρ w k → c.wp P (Exit.then (fun a' w' => ∃ ρ' k', a' = en N ρ' ∧ k' < k ∧ I ρ' w' k') Q) (en N ρ) w) : (Code.loop c).wp P Q (en N ρ) w := by
  intro b k cs
  have key : ∀ n ρ w, I ρ w n →
      ∃ e a' w', Q e a' w' ∧ Arrives P (lone (b.at (en N ρ) (.code c :: .inLoop c :: k)) cs w) b k cs e a' w' := by
    intro n
    induction n using Nat.strongRecOn with
    | _ n ih =>
      intro ρ w hI
      obtain ⟨e, a₁, w₁, hq, harr⟩ := round ρ w n hI b (.inLoop c :: k) cs
      cases e with
      | normal =>
        obtain ⟨ρ', k', rfl, hlt, hI₁⟩ := hq
        obtain ⟨e₂, a₂, w₂, hq₂, harr₂⟩ := ih k' hlt ρ' w₁ hI₁
        exact ⟨e₂, a₂, w₂, hq₂, .of_steps (Steps.trans harr (.one step_inLoop)) harr₂⟩
      | exit id => exact ⟨_, a₁, w₁, hq, .pass (x := .inLoop c) rfl (fun _ _ => .inl (by simp)) harr⟩
      | goto l => exact ⟨_, a₁, w₁, hq, .pass (x := .inLoop c) rfl (fun _ _ => .inl (by simp)) harr⟩
      | ret => exact ⟨_, a₁, w₁, hq, .pass (x := .inLoop c) rfl (fun _ _ => .inl (by simp)) harr⟩
      | panic ch => exact ⟨_, a₁, w₁, hq, .pass (x := .inLoop c) rfl (fun _ _ => .inl (by simp)) harr⟩
      | outgrown => exact ⟨_, a₁, w₁, hq, .pass (x := .inLoop c) rfl (fun _ _ => .inl (by simp)) harr⟩
  obtain ⟨e, a', w', hq, harr⟩ := key k0 ρ w h0
  exact ⟨e, a', w', hq, .of_steps (.one step_loop) harr⟩
end
end Go.FM
