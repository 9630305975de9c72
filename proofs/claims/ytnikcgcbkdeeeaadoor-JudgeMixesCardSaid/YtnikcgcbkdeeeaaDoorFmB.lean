/- Rules for operations that leave memory alone. -/
import Derived.Test.YtnikcgcbkdeeeaaDoorFmA
set_option linter.unusedVariables false
set_option linter.unusedSimpArgs false
namespace Go.FM
open Go
section
variable {P : Program} {Q : Exit → Act → World → Prop} {N : Nat} {ρ : Nat → Value} {w w' : World} {ops : Array Oper} {rest : List Oper}
variable {d ty : Nat} {pos : String} {aft : Array Edge} {g : Option (Nat × Bool)}

/-- An operation yields a value. -/
def Ex (P : Program) (N : Nat) (ρ : Nat → Value) (w : World) (op : Op) (ty : TypeId) (v : Value) (w' : World) : Prop :=
  ∀ d pos aft g, (execOp (en N ρ).eval ⟨d, op, ty, pos, aft, g⟩).run P w = .ok (.value v) w'
/-- An operation yields nothing. -/
def Ex0 (P : Program) (N : Nat) (ρ : Nat → Value) (w : World) (op : Op) (ty : TypeId) (w' : World) : Prop :=
  ∀ d pos aft g, (execOp (en N ρ).eval ⟨d, op, ty, pos, aft, g⟩).run P w = .ok .skip w'

theorem st {op : Op} {v : Value} (hr : Ex P N ρ w op ty v w') (h : wpList P ops Q rest (en N (up ρ d v)) w') : wpList P ops Q (⟨some d, op, ty, pos, aft, none⟩ :: rest) (en N ρ) w := by
  refine wpList_plain rfl fun K hK => ?_
  unfold Oper.wp
  rw [hr]
  simp only [Oper.upon, en_put]
  exact hK _ _ h
theorem st0 {op : Op} (hr : Ex0 P N ρ w op ty w') (h : wpList P ops Q rest (en N ρ) w') : wpList P ops Q (⟨none, op, ty, pos, aft, none⟩ :: rest) (en N ρ) w := by
  refine wpList_plain rfl fun K hK => ?_
  unfold Oper.wp
  rw [hr]
  simp only [Oper.upon, en_put_none]
  exact hK _ _ h
/-- A guard that holds, one that doesn't. -/
theorem yl {j dj : Nat} {b : Bool} (ho : (ops[j]?).bind (·.dst) = some dj) (hd : Nat.blt dj N = true) (hv : ρ dj = .bool b) : yielded ops (en N ρ).tmps j = some b := by
  have h1 : dj < N := Nat.le_of_ble_eq_true hd
  unfold yielded
  rw [ho]
  simp [en, h1, hv]
theorem g_yes {o : Option Tmp} {op : Op} {j : Nat} {b : Bool} (hy : yielded ops (en N ρ).tmps j = some b) (h : wpList P ops Q (⟨o, op, ty, pos, aft, none⟩ :: rest) (en N ρ) w) : wpList P ops Q (⟨o, op, ty, pos, aft, some (j, b)⟩ :: rest) (en N ρ) w := by
  have h' := h
  unfold wpList at h' ⊢
  have e1 : Region.wanted ⟨o, op, ty, pos, aft, none⟩ (yielded ops (en N ρ).tmps) = true := by simp [Region.wanted]
  have e2 : Region.wanted ⟨o, op, ty, pos, aft, some (j, b)⟩ (yielded ops (en N ρ).tmps) = true := by simp [Region.wanted, hy]
  rw [if_pos e1] at h'
  rw [if_pos e2]
  exact h'
theorem g_no {op : Op} {j : Nat} {b c : Bool} (hy : yielded ops (en N ρ).tmps j = some c) (hn : (c == b) = false) (h : wpList P ops Q rest (en N (up ρ d (.tuple #[]))) w) : wpList P ops Q (⟨some d, op, ty, pos, aft, some (j, b)⟩ :: rest) (en N ρ) w := by
  unfold wpList
  have e2 : Region.wanted ⟨some d, op, ty, pos, aft, some (j, b)⟩ (yielded ops (en N ρ).tmps) = false := by
    simp [Region.wanted, hy]
    simpa using hn
  rw [if_neg (by simp [e2]), en_put]
  exact h

/-- A call. -/
theorem st_call {f : FuncId} {fv : Operand} {cap : Array Value} {xs : Array Operand} {ats : Array TypeId} {vs : Array Value} {fn : Func} {c : Code} {R : Ending → World → Prop}
    (hfv : Ev N ρ fv (.func (.func f) #[] cap)) (hvs : xs.map (en N ρ).eval = vs) (hf : P.funcs[f]? = some fn) (hn : fn.name ≠ "runtime.NumGoroutine") (hb : fn.body.isSome = true)
    (hc : Calls P f (vs ++ cap) w R) (h : ∀ e w', R e w' → ∃ v, e = .returned v ∧ wpList P ops Q rest (en N (up ρ d v)) w') :
    wpList P ops Q (⟨some d, .call { callee := .value fv, args := xs, argTypes := ats }, ty, pos, aft, none⟩ :: rest) (en N ρ) w := by
  refine wpList_plain rfl fun K hK => ?_
  unfold Oper.wp
  have hfv' : (en N ρ).eval fv = .func (.func f) #[] cap := hfv
  have hb' : fn.body ≠ none := fun hh => by rw [hh] at hb; cases hb
  have : (execOp (en N ρ).eval ⟨some d, .call { callee := .value fv, args := xs, argTypes := ats }, ty, pos, aft, none⟩).run P w = .ok (.enter f (vs ++ cap)) w := by
    simp [execOp, resolve, Deferred.ofValue, hfv', hvs, invoke, callFunc, hf, hn, hb']
  rw [this]
  simp only [Oper.upon]
  refine hc.mono fun e w' hR => ?_
  obtain ⟨v, rfl, h'⟩ := h e w' hR
  simp only [en_put]
  exact hK _ _ h'
/-- .. whose result nobody wants. -/
theorem st_call0 {f : FuncId} {fv : Operand} {cap : Array Value} {xs : Array Operand} {ats : Array TypeId} {vs : Array Value} {fn : Func} {c : Code} {R : Ending → World → Prop}
    (hfv : Ev N ρ fv (.func (.func f) #[] cap)) (hvs : xs.map (en N ρ).eval = vs) (hf : P.funcs[f]? = some fn) (hn : fn.name ≠ "runtime.NumGoroutine") (hb : fn.body.isSome = true)
    (hc : Calls P f (vs ++ cap) w R) (h : ∀ e w', R e w' → ∃ v, e = .returned v ∧ wpList P ops Q rest (en N ρ) w') :
    wpList P ops Q (⟨none, .call { callee := .value fv, args := xs, argTypes := ats }, ty, pos, aft, none⟩ :: rest) (en N ρ) w := by
  refine wpList_plain rfl fun K hK => ?_
  unfold Oper.wp
  have hfv' : (en N ρ).eval fv = .func (.func f) #[] cap := hfv
  have hb' : fn.body ≠ none := fun hh => by rw [hh] at hb; cases hb
  have : (execOp (en N ρ).eval ⟨none, .call { callee := .value fv, args := xs, argTypes := ats }, ty, pos, aft, none⟩).run P w = .ok (.enter f (vs ++ cap)) w := by
    simp [execOp, resolve, Deferred.ofValue, hfv', hvs, invoke, callFunc, hf, hn, hb']
  rw [this]
  simp only [Oper.upon]
  refine hc.mono fun e w' hR => ?_
  obtain ⟨v, rfl, h'⟩ := h e w' hR
  simp only [en_put_none]
  exact hK _ _ h'

/-! ### moves -/
theorem x_move {x : Operand} {v : Value} (hx : Ev N ρ x v) : Ex P N ρ w (.move x) ty v w := fun _ _ _ _ => by
  have : (en N ρ).eval x = v := hx
  simp [execOp, this]
theorem x_assign {x : Operand} {v : Value} (hx : Ev N ρ x v) : Ex P N ρ w (.assign x) ty v w := fun _ _ _ _ => by
  have : (en N ρ).eval x = v := hx
  simp [execOp, this]
theorem x_pick_t {c x y : Operand} {v : Value} (hc : Ev N ρ c (.bool true)) (hx : Ev N ρ x v) : Ex P N ρ w (.pick c x y) ty v w := fun _ _ _ _ => by
  have h1 : (en N ρ).eval c = .bool true := hc
  have h2 : (en N ρ).eval x = v := hx
  simp [execOp, h1, h2, asBool]
theorem x_pick_f {c x y : Operand} {v : Value} (hc : Ev N ρ c (.bool false)) (hy : Ev N ρ y v) : Ex P N ρ w (.pick c x y) ty v w := fun _ _ _ _ => by
  have h1 : (en N ρ).eval c = .bool false := hc
  have h2 : (en N ρ).eval y = v := hy
  simp [execOp, h1, h2, asBool]
theorem x_extract {x : Operand} {i : Nat} {vs : Array Value} {v : Value} (hx : Ev N ρ x (.tuple vs)) (hv : vs[i]? = some v) : Ex P N ρ w (.extract x i) ty v w := fun _ _ _ _ => by
  have h1 : (en N ρ).eval x = .tuple vs := hx
  simp [execOp, h1, Instr.extract, hv]
theorem x_nilCheck {x : Operand} {a : Addr} (hx : Ev N ρ x (.pointer (some a))) : Ex P N ρ w (.nilCheck x) ty (.pointer (some a)) w := fun _ _ _ _ => by
  have h1 : (en N ρ).eval x = .pointer (some a) := hx
  simp [execOp, h1]
theorem x_not {x : Operand} {b : Bool} {xt : TypeId} (hx : Ev N ρ x (.bool b)) : Ex P N ρ w (.unOp .not xt x) ty (.bool (!b)) w := fun _ _ _ _ => by
  have h1 : (en N ρ).eval x = .bool b := hx
  simp [execOp, h1, Op.unary]
theorem x_makeFunc {fn : Fn} {first captured : Array Operand} {vs us : Array Value} (h1 : first.map (en N ρ).eval = vs) (h2 : captured.map (en N ρ).eval = us) : Ex P N ρ w (.makeFunc fn first captured) ty (.func fn vs us) w := fun _ _ _ _ => by
  simp [execOp, h1, h2, Instr.makeFunc]

/-! ### whole numbers -/
section
variable {k : IntKind} {a b r : Int} {x y : Operand} {xt yt : TypeId}
theorem eqGuard_int (op : BinOp) (t : TypeId) (x y : Operand) (k k' : IntKind) (a b : Int) (w : World) : (eqGuard op t x y (.int k a) (.int k' b)).run P w = .ok () w := by
  unfold eqGuard
  split <;> rfl
theorem eqGuard_bool (op : BinOp) (t : TypeId) (x y : Operand) (a b : Bool) (w : World) : (eqGuard op t x y (.bool a) (.bool b)).run P w = .ok () w := by
  unfold eqGuard
  split <;> rfl
theorem x_add (hx : Ev N ρ x (.int k a)) (hy : Ev N ρ y (.int k b)) (hr : k.wrap (a + b) = r) : Ex P N ρ w (.binOp .add xt x y yt) ty (.int k r) w := fun _ _ _ _ => by
  have h1 : (en N ρ).eval x = .int k a := hx
  have h2 : (en N ρ).eval y = .int k b := hy
  simp [execOp, h1, h2, eqGuard_int, binOp, Op.intArith, hr]
theorem x_sub (hx : Ev N ρ x (.int k a)) (hy : Ev N ρ y (.int k b)) (hr : k.wrap (a - b) = r) : Ex P N ρ w (.binOp .sub xt x y yt) ty (.int k r) w := fun _ _ _ _ => by
  have h1 : (en N ρ).eval x = .int k a := hx
  have h2 : (en N ρ).eval y = .int k b := hy
  simp [execOp, h1, h2, eqGuard_int, binOp, Op.intArith, hr]
theorem x_mul (hx : Ev N ρ x (.int k a)) (hy : Ev N ρ y (.int k b)) (hr : k.wrap (a * b) = r) : Ex P N ρ w (.binOp .mul xt x y yt) ty (.int k r) w := fun _ _ _ _ => by
  have h1 : (en N ρ).eval x = .int k a := hx
  have h2 : (en N ρ).eval y = .int k b := hy
  simp [execOp, h1, h2, eqGuard_int, binOp, Op.intArith, hr]
theorem x_quo (hx : Ev N ρ x (.int k a)) (hy : Ev N ρ y (.int k b)) (h0 : b ≠ 0) (hr : k.wrap (a.tdiv b) = r) : Ex P N ρ w (.binOp .quo xt x y yt) ty (.int k r) w := fun _ _ _ _ => by
  have h1 : (en N ρ).eval x = .int k a := hx
  have h2 : (en N ρ).eval y = .int k b := hy
  simp [execOp, h1, h2, eqGuard_int, binOp, Op.intDiv, hr, h0]
theorem x_rem (hx : Ev N ρ x (.int k a)) (hy : Ev N ρ y (.int k b)) (h0 : b ≠ 0) (hr : a.tmod b = r) : Ex P N ρ w (.binOp .rem xt x y yt) ty (.int k r) w := fun _ _ _ _ => by
  have h1 : (en N ρ).eval x = .int k a := hx
  have h2 : (en N ρ).eval y = .int k b := hy
  simp [execOp, h1, h2, eqGuard_int, binOp, Op.intDiv, hr, h0]
theorem x_eql (hx : Ev N ρ x (.int k a)) (hy : Ev N ρ y (.int k b)) : Ex P N ρ w (.binOp .eql xt x y yt) ty (.bool (decide (a = b))) w := fun _ _ _ _ => by
  have h1 : (en N ρ).eval x = .int k a := hx
  have h2 : (en N ρ).eval y = .int k b := hy
  simp [execOp, h1, h2, eqGuard_int, binOp, Op.intCmp]
  rfl
theorem x_neq (hx : Ev N ρ x (.int k a)) (hy : Ev N ρ y (.int k b)) : Ex P N ρ w (.binOp .neq xt x y yt) ty (.bool (decide (a ≠ b))) w := fun _ _ _ _ => by
  have h1 : (en N ρ).eval x = .int k a := hx
  have h2 : (en N ρ).eval y = .int k b := hy
  simp [execOp, h1, h2, eqGuard_int, binOp, Op.intCmp, bne]
  rfl
theorem x_lss (hx : Ev N ρ x (.int k a)) (hy : Ev N ρ y (.int k b)) : Ex P N ρ w (.binOp .lss xt x y yt) ty (.bool (decide (a < b))) w := fun _ _ _ _ => by
  have h1 : (en N ρ).eval x = .int k a := hx
  have h2 : (en N ρ).eval y = .int k b := hy
  simp [execOp, h1, h2, eqGuard_int, binOp, Op.intCmp]
theorem x_leq (hx : Ev N ρ x (.int k a)) (hy : Ev N ρ y (.int k b)) : Ex P N ρ w (.binOp .leq xt x y yt) ty (.bool (decide (a ≤ b))) w := fun _ _ _ _ => by
  have h1 : (en N ρ).eval x = .int k a := hx
  have h2 : (en N ρ).eval y = .int k b := hy
  simp [execOp, h1, h2, eqGuard_int, binOp, Op.intCmp]
theorem x_gtr (hx : Ev N ρ x (.int k a)) (hy : Ev N ρ y (.int k b)) : Ex P N ρ w (.binOp .gtr xt x y yt) ty (.bool (decide (b < a))) w := fun _ _ _ _ => by
  have h1 : (en N ρ).eval x = .int k a := hx
  have h2 : (en N ρ).eval y = .int k b := hy
  simp [execOp, h1, h2, eqGuard_int, binOp, Op.intCmp]
theorem x_geq (hx : Ev N ρ x (.int k a)) (hy : Ev N ρ y (.int k b)) : Ex P N ρ w (.binOp .geq xt x y yt) ty (.bool (decide (b ≤ a))) w := fun _ _ _ _ => by
  have h1 : (en N ρ).eval x = .int k a := hx
  have h2 : (en N ρ).eval y = .int k b := hy
  simp [execOp, h1, h2, eqGuard_int, binOp, Op.intCmp]
theorem x_neg (hx : Ev N ρ x (.int k a)) (hr : k.wrap (0 - a) = r) : Ex P N ρ w (.unOp .neg xt x) ty (.int k r) w := fun _ _ _ _ => by
  have h1 : (en N ρ).eval x = .int k a := hx
  simp only [execOp, h1, Op.unary, Op.intArith]
  rw [← hr]
  rfl
theorem x_conv {k' : IntKind} {u : TypeDesc} (hs : P.underlying xt = some u) (hd : P.underlying yt = some (.int k')) (hx : Ev N ρ x (.int k a)) (hr : k'.wrap a = r) : Ex P N ρ w (.convert xt yt x) ty (.int k' r) w := fun _ _ _ _ => by
  have h1 : (en N ρ).eval x = .int k a := hx
  simp [execOp, h1, convert, run_underlying hs, run_underlying hd, Conv.intToInt, hr]
/-- Bits, of numbers without a sign. -/
theorem ofInt_nat (n a : Nat) (h : a < 2 ^ n) : (BitVec.ofInt n (a : Int)).toNat = a := by
  rw [BitVec.toNat_ofInt]
  have : ((a : Int) % ((2 ^ n : Nat) : Int)) = (a : Int) := Int.emod_eq_of_lt (by omega) (by exact_mod_cast h)
  rw [this]; simp
theorem wrap_nat (k : IntKind) (hk : k.signed = false) (a : Nat) (h : a < 2 ^ k.bits) : k.wrap (a : Int) = a := by
  unfold IntKind.wrap
  have : ((a : Int) % ((2 : Int) ^ k.bits)) = (a : Int) := Int.emod_eq_of_lt (by omega) (by exact_mod_cast h)
  simp [hk, this]
section
variable {m n : Nat}
theorem x_and (hk : k.signed = false) (hx : Ev N ρ x (.int k (m : Int))) (hy : Ev N ρ y (.int k (n : Int))) (hm : m < 2 ^ k.bits) (hn : n < 2 ^ k.bits) : Ex P N ρ w (.binOp .and xt x y yt) ty (.int k ((m &&& n : Nat) : Int)) w := fun _ _ _ _ => by
  have h1 : (en N ρ).eval x = .int k m := hx
  have h2 : (en N ρ).eval y = .int k n := hy
  have : m &&& n < 2 ^ k.bits := Nat.lt_of_le_of_lt Nat.and_le_left hm
  simp [execOp, h1, h2, eqGuard_int, binOp, Op.intBits, BitVec.toNat_and, ofInt_nat _ _ hm, ofInt_nat _ _ hn, Nat.mod_eq_of_lt hm, Nat.mod_eq_of_lt hn]
  exact wrap_nat k hk _ this
theorem x_or (hk : k.signed = false) (hx : Ev N ρ x (.int k (m : Int))) (hy : Ev N ρ y (.int k (n : Int))) (hm : m < 2 ^ k.bits) (hn : n < 2 ^ k.bits) : Ex P N ρ w (.binOp .or xt x y yt) ty (.int k ((m ||| n : Nat) : Int)) w := fun _ _ _ _ => by
  have h1 : (en N ρ).eval x = .int k m := hx
  have h2 : (en N ρ).eval y = .int k n := hy
  have : m ||| n < 2 ^ k.bits := Nat.or_lt_two_pow hm hn
  simp [execOp, h1, h2, eqGuard_int, binOp, Op.intBits, BitVec.toNat_or, ofInt_nat _ _ hm, ofInt_nat _ _ hn, Nat.mod_eq_of_lt hm, Nat.mod_eq_of_lt hn]
  exact wrap_nat k hk _ this
theorem x_xor (hk : k.signed = false) (hx : Ev N ρ x (.int k (m : Int))) (hy : Ev N ρ y (.int k (n : Int))) (hm : m < 2 ^ k.bits) (hn : n < 2 ^ k.bits) : Ex P N ρ w (.binOp .xor xt x y yt) ty (.int k ((m ^^^ n : Nat) : Int)) w := fun _ _ _ _ => by
  have h1 : (en N ρ).eval x = .int k m := hx
  have h2 : (en N ρ).eval y = .int k n := hy
  have : m ^^^ n < 2 ^ k.bits := Nat.xor_lt_two_pow hm hn
  simp [execOp, h1, h2, eqGuard_int, binOp, Op.intBits, BitVec.toNat_xor, ofInt_nat _ _ hm, ofInt_nat _ _ hn, Nat.mod_eq_of_lt hm, Nat.mod_eq_of_lt hn]
  exact wrap_nat k hk _ this
theorem x_andNot (hk : k.signed = false) (hx : Ev N ρ x (.int k (m : Int))) (hy : Ev N ρ y (.int k (n : Int))) (hm : m < 2 ^ k.bits) (hn : n < 2 ^ k.bits) : Ex P N ρ w (.binOp .andNot xt x y yt) ty (.int k ((m &&& (2 ^ k.bits - 1 - n) : Nat) : Int)) w := fun _ _ _ _ => by
  have h1 : (en N ρ).eval x = .int k m := hx
  have h2 : (en N ρ).eval y = .int k n := hy
  have : m &&& (2 ^ k.bits - 1 - n) < 2 ^ k.bits := Nat.lt_of_le_of_lt Nat.and_le_left hm
  simp [execOp, h1, h2, eqGuard_int, binOp, Op.intBits, BitVec.toNat_and, BitVec.toNat_not, ofInt_nat _ _ hm, ofInt_nat _ _ hn, Nat.mod_eq_of_lt hm, Nat.mod_eq_of_lt hn]
  exact wrap_nat k hk _ this
theorem x_xorU (hk : k.signed = false) (hx : Ev N ρ x (.int k (n : Int))) (hn : n < 2 ^ k.bits) : Ex P N ρ w (.unOp .xor xt x) ty (.int k ((2 ^ k.bits - 1 - n : Nat) : Int)) w := fun _ _ _ _ => by
  have h2 : (en N ρ).eval x = .int k n := hx
  have hp : 0 < 2 ^ k.bits := Nat.two_pow_pos _
  have hmax : k.max = ((2 ^ k.bits - 1 : Nat) : Int) := by
    unfold IntKind.max
    rw [if_neg (by simp [hk]), show ((2 : Int) ^ k.bits) = ((2 ^ k.bits : Nat) : Int) by push_cast; rfl]
    omega
  have e : (2 ^ k.bits - 1) ^^^ n = 2 ^ k.bits - 1 - n := by
    have := BitVec.toNat_not (x := BitVec.ofNat k.bits n)
    rw [BitVec.not_def, BitVec.toNat_xor, BitVec.toNat_ofNat, Nat.mod_eq_of_lt hn, BitVec.toNat_allOnes] at this
    exact this
  simp [execOp, h2, Op.unary, Op.intBits, hk, hmax, BitVec.toNat_xor, ofInt_nat _ _ hn, ofInt_nat _ _ (show 2 ^ k.bits - 1 < 2 ^ k.bits by omega), Nat.mod_eq_of_lt hn]
  rw [e]
  exact wrap_nat k hk _ (by omega)
theorem x_shl {k' : IntKind} (hk : k.signed = false) (hx : Ev N ρ x (.int k (m : Int))) (hy : Ev N ρ y (.int k' b)) (h0 : 0 ≤ b) : Ex P N ρ w (.binOp .shl xt x y yt) ty (.int k ((m * 2 ^ b.toNat % 2 ^ k.bits : Nat) : Int)) w := fun _ _ _ _ => by
  have h1 : (en N ρ).eval x = .int k m := hx
  have h2 : (en N ρ).eval y = .int k' b := hy
  have hnn : ¬ b < 0 := by omega
  have e : k.wrap ((m : Int) * 2 ^ (min b.toNat k.bits)) = ((m * 2 ^ b.toNat % 2 ^ k.bits : Nat) : Int) := by
    unfold IntKind.wrap
    simp only [hk, Bool.false_and]
    rw [if_neg (by simp)]
    rcases Nat.le_total b.toNat k.bits with h | h
    · rw [Nat.min_eq_left h]; push_cast; rfl
    · rw [Nat.min_eq_right h]
      have : b.toNat = k.bits + (b.toNat - k.bits) := by omega
      have e1 : m * 2 ^ b.toNat % 2 ^ k.bits = 0 := by
        rw [this, Nat.pow_add, ← Nat.mul_assoc, Nat.mul_comm m, Nat.mul_assoc]; exact Nat.mul_mod_right _ _
      rw [e1]; simp
  simp [execOp, h1, h2, eqGuard_int, binOp, Op.shift, hnn]
  rw [e]; push_cast; rfl
theorem x_shr {k' : IntKind} (hk : k.signed = false) (hx : Ev N ρ x (.int k (m : Int))) (hy : Ev N ρ y (.int k' b)) (h0 : 0 ≤ b) (hm : m < 2 ^ k.bits) : Ex P N ρ w (.binOp .shr xt x y yt) ty (.int k ((m / 2 ^ b.toNat : Nat) : Int)) w := fun _ _ _ _ => by
  have h1 : (en N ρ).eval x = .int k m := hx
  have h2 : (en N ρ).eval y = .int k' b := hy
  have hnn : ¬ b < 0 := by omega
  have e : (m : Int).fdiv (2 ^ (min b.toNat k.bits)) = ((m / 2 ^ b.toNat : Nat) : Int) := by
    rw [show ((2 : Int) ^ (min b.toNat k.bits)) = ((2 ^ (min b.toNat k.bits) : Nat) : Int) by push_cast; rfl, Int.fdiv_eq_ediv_of_nonneg _ (Int.natCast_nonneg _)]
    rcases Nat.le_total b.toNat k.bits with h | h
    · rw [Nat.min_eq_left h]; push_cast; rfl
    · rw [Nat.min_eq_right h]
      have e1 : m / 2 ^ k.bits = 0 := Nat.div_eq_of_lt hm
      have e2 : m / 2 ^ b.toNat = 0 := Nat.div_eq_of_lt (Nat.lt_of_lt_of_le hm (Nat.pow_le_pow_right (by omega) h))
      rw [e2]; rw [← Int.natCast_ediv, e1]
  simp [execOp, h1, h2, eqGuard_int, binOp, Op.shift, hnn]
  rw [e]; push_cast; rfl
end
end

/-! ### lengths, places -/
section
variable {x y : Operand} {xt yt et : TypeId} {A : Option Addr} {n c : Nat} {i : Int} {k : IntKind}
theorem x_len {at_ : TypeId} (hu : P.underlying at_ = some (.slice et)) (hx : Ev N ρ x (.slice A n c)) : Ex P N ρ w (.call { callee := .builtin .len, args := #[x], argTypes := #[at_] }) ty (.int .i64 (n : Int)) w := fun _ _ _ _ => by
  have h1 : (en N ρ).eval x = .slice A n c := hx
  simp [execOp, resolve, invoke, builtin, h1, Builtin.len_, run_underlying hu, goInt]
theorem x_cap {at_ : TypeId} (hu : P.underlying at_ = some (.slice et)) (hx : Ev N ρ x (.slice A n c)) : Ex P N ρ w (.call { callee := .builtin .cap, args := #[x], argTypes := #[at_] }) ty (.int .i64 (c : Int)) w := fun _ _ _ _ => by
  have h1 : (en N ρ).eval x = .slice A n c := hx
  simp [execOp, resolve, invoke, builtin, h1, Builtin.cap_, run_underlying hu, goInt]
theorem x_lenStr {at_ : TypeId} {s : ByteArray} (hu : P.underlying at_ = some .string) (hx : Ev N ρ x (.string s)) : Ex P N ρ w (.call { callee := .builtin .len, args := #[x], argTypes := #[at_] }) ty (.int .i64 (s.size : Int)) w := fun _ _ _ _ => by
  have h1 : (en N ρ).eval x = .string s := hx
  simp [execOp, resolve, invoke, builtin, h1, Builtin.len_, run_underlying hu, goInt]
theorem x_fieldAddr {fs : Array Field} {f : Nat} {fd : Field} {ad : Addr} {i0 : TypeInfo} (hu : P.underlying xt = some (.struct fs)) (hf : fs[f]? = some fd) (hi : P.info? fd.type = some i0) (hz : i0.size ≠ 0) (hx : Ev N ρ x (.pointer (some ad))) :
    Ex P N ρ w (.fieldAddr xt x f) ty (.pointer (some (ad.add fd.offset))) w := fun _ _ _ _ => by
  have h1 : (en N ρ).eval x = .pointer (some ad) := hx
  simp [execOp, h1, Instr.fieldAt, run_underlying hu, hf, Instr.sureAddr, fieldPlace, sizeOf, typeInfo, hi, hz]
theorem x_indexAddr {ad : Addr} {i0 : TypeInfo} (hu : P.underlying xt = some (.slice et)) (hi : P.info? et = some i0) (hx : Ev N ρ x (.slice (some ad) n c)) (hy : Ev N ρ y (.int k i)) (h0 : 0 ≤ i) (h1 : i < n) :
    Ex P N ρ w (.indexAddr xt x y) ty (.pointer (some (ad.add (i.toNat * i0.size)))) w := fun _ _ _ _ => by
  have e1 : (en N ρ).eval x = .slice (some ad) n c := hx
  have e2 : (en N ρ).eval y = .int k i := hy
  simp [execOp, e1, e2, Instr.indexAt, run_underlying hu, asIntOf, h0, h1, sizeOf, typeInfo, hi]
theorem x_indexAddrArr {ad : Addr} {i0 : TypeInfo} (hu : P.underlying xt = some (.array n et)) (hi : P.info? et = some i0) (hx : Ev N ρ x (.pointer (some ad))) (hy : Ev N ρ y (.int k i)) (h0 : 0 ≤ i) (h1 : i < n) :
    Ex P N ρ w (.indexAddr xt x y) ty (.pointer (some (ad.add (i.toNat * i0.size)))) w := fun _ _ _ _ => by
  have e1 : (en N ρ).eval x = .pointer (some ad) := hx
  have e2 : (en N ρ).eval y = .int k i := hy
  simp [execOp, e1, e2, Instr.indexAt, run_underlying hu, asIntOf, h0, h1, sizeOf, typeInfo, hi, Instr.sureAddr]
theorem x_indexStr {s : ByteArray} (hu : P.underlying xt = some .string) (hx : Ev N ρ x (.string s)) (hy : Ev N ρ y (.int k i)) (h0 : 0 ≤ i) {b : UInt8} (h1 : s[i.toNat]? = some b) :
    Ex P N ρ w (.index xt x y) ty (.int .u8 (b.toNat : Int)) w := fun _ _ _ _ => by
  have e1 : (en N ρ).eval x = .string s := hx
  have e2 : (en N ρ).eval y = .int k i := hy
  simp [execOp, e1, e2, Instr.index, run_underlying hu, asIntOf, h0, h1]
end
end
end Go.FM
