/- Small words that the printed walks use. -/
import Derived.Test.YtnikcgcbkdeeeaaDoorFmD
import Derived.Test.YtnikcgcbkdeeeaaDoorFmC2
set_option linter.unusedVariables false
set_option linter.unusedSimpArgs false
namespace Go.FM
open Go

def Inf (P : Program) (T : TypeId) (z : Value) (s b : Nat) : Prop := ∃ i0, P.info? T = some i0 ∧ i0.zero = some z ∧ i0.size = s ∧ i0.bytes = b
theorem Inf.mk {P : Program} {T : TypeId} {z : Value} {s b : Nat} (h : (P.info? T).map (fun i => (i.zero, i.size, i.bytes)) = some (some z, s, b)) : Inf P T z s b := by
  obtain ⟨i0, h1, h2⟩ := Option.map_eq_some_iff.1 h
  simp only [Prod.mk.injEq] at h2
  exact ⟨i0, h1, h2.1, h2.2.1, h2.2.2⟩
/-- A function that can be called. -/
def Cb (P : Program) (f : FuncId) : Prop := ∃ fn, P.funcs[f]? = some fn ∧ (fn.name == "runtime.NumGoroutine") = false ∧ fn.body.isSome = true

section
variable {P : Program} {Q : Exit → Act → World → Prop} {N : Nat} {ρ : Nat → Value} {w w' : World} {ops : Array Oper} {rest : List Oper}
variable {d ty : Nat} {pos : String} {aft : Array Edge} {g : Option (Nat × Bool)}

theorem evs0 : (#[] : Array Operand).map (en N ρ).eval = #[] := by simp
theorem evs1 {x : Operand} {v : Value} (h : Ev N ρ x v) : (#[x] : Array Operand).map (en N ρ).eval = #[v] := by
  have e : (en N ρ).eval x = v := h
  simp [e]
theorem evs2 {x y : Operand} {v u : Value} (h : Ev N ρ x v) (k : Ev N ρ y u) : (#[x, y] : Array Operand).map (en N ρ).eval = #[v, u] := by
  have e : (en N ρ).eval x = v := h
  have e2 : (en N ρ).eval y = u := k
  simp [e, e2]
theorem evs3 {x y z : Operand} {v u t : Value} (h : Ev N ρ x v) (k : Ev N ρ y u) (l : Ev N ρ z t) : (#[x, y, z] : Array Operand).map (en N ρ).eval = #[v, u, t] := by
  have e : (en N ρ).eval x = v := h
  have e2 : (en N ρ).eval y = u := k
  have e3 : (en N ρ).eval z = t := l
  simp [e, e2, e3]
theorem evs4 {x y z a : Operand} {v u t s : Value} (h : Ev N ρ x v) (k : Ev N ρ y u) (l : Ev N ρ z t) (m : Ev N ρ a s) : (#[x, y, z, a] : Array Operand).map (en N ρ).eval = #[v, u, t, s] := by
  have e : (en N ρ).eval x = v := h
  have e2 : (en N ρ).eval y = u := k
  have e3 : (en N ρ).eval z = t := l
  have e4 : (en N ρ).eval a = s := m
  simp [e, e2, e3, e4]
/-- Parts of a struct or a literal. -/
def Evp (N : Nat) (ρ : Nat → Value) (l : List (Nat × Operand)) (vs : List (Nat × Value)) : Prop := l.map (fun p => (p.1, (en N ρ).eval p.2)) = vs
theorem Evp.nil : Evp N ρ [] [] := rfl
theorem Evp.cons {i : Nat} {x : Operand} {v : Value} {l : List (Nat × Operand)} {vs : List (Nat × Value)} (h : Ev N ρ x v) (k : Evp N ρ l vs) : Evp N ρ ((i, x) :: l) ((i, v) :: vs) := by
  have e : (en N ρ).eval x = v := h
  have k' : l.map (fun p => (p.1, (en N ρ).eval p.2)) = vs := k
  show (i, (en N ρ).eval x) :: _ = _
  rw [k', e]
theorem Evp.arr {l : List (Nat × Operand)} {vs : List (Nat × Value)} (h : Evp N ρ l vs) : l.toArray.map (fun p => (p.1, (en N ρ).eval p.2)) = vs.toArray := by
  rw [List.map_toArray, h]

theorem st_c {f : FuncId} {fv : Operand} {xs : Array Operand} {ats : Array TypeId} {vs : Array Value} {R : Ending → World → Prop} (cb : Cb P f)
    (hfv : Ev N ρ fv (.func (.func f) #[] #[])) (hvs : xs.map (en N ρ).eval = vs)
    (hc : Calls P f vs w R) (h : ∀ e w', R e w' → ∃ v, e = .returned v ∧ wpList P ops Q rest (en N (up ρ d v)) w') :
    wpList P ops Q (⟨some d, .call { callee := .value fv, args := xs, argTypes := ats }, ty, pos, aft, none⟩ :: rest) (en N ρ) w := by
  obtain ⟨fn, h1, h2, h3⟩ := cb
  refine st_call (c := .skip) (fn := fn) hfv hvs h1 (by simpa using h2) h3 (R := R) ?_ h
  simpa using hc
theorem st_cc {f : FuncId} {fv : Operand} {cap : Array Value} {xs : Array Operand} {ats : Array TypeId} {vs us : Array Value} {R : Ending → World → Prop} (cb : Cb P f)
    (hfv : Ev N ρ fv (.func (.func f) #[] cap)) (hvs : xs.map (en N ρ).eval = vs) (hus : vs ++ cap = us)
    (hc : Calls P f us w R) (h : ∀ e w', R e w' → ∃ v, e = .returned v ∧ wpList P ops Q rest (en N (up ρ d v)) w') :
    wpList P ops Q (⟨some d, .call { callee := .value fv, args := xs, argTypes := ats }, ty, pos, aft, none⟩ :: rest) (en N ρ) w := by
  obtain ⟨fn, h1, h2, h3⟩ := cb
  refine st_call (c := .skip) (fn := fn) hfv hvs h1 (by simpa using h2) h3 (R := R) ?_ h
  rw [hus]; exact hc
theorem st_c0 {f : FuncId} {fv : Operand} {xs : Array Operand} {ats : Array TypeId} {vs : Array Value} {R : Ending → World → Prop} (cb : Cb P f)
    (hfv : Ev N ρ fv (.func (.func f) #[] #[])) (hvs : xs.map (en N ρ).eval = vs)
    (hc : Calls P f vs w R) (h : ∀ e w', R e w' → ∃ v, e = .returned v ∧ wpList P ops Q rest (en N ρ) w') :
    wpList P ops Q (⟨none, .call { callee := .value fv, args := xs, argTypes := ats }, ty, pos, aft, none⟩ :: rest) (en N ρ) w := by
  obtain ⟨fn, h1, h2, h3⟩ := cb
  refine st_call0 (c := .skip) (fn := fn) hfv hvs h1 (by simpa using h2) h3 (R := R) ?_ h
  simpa using hc

theorem yn {j dj : Nat} (ho : (ops[j]?).bind (·.dst) = some dj) (hv : ρ dj = .tuple #[]) : yielded ops (en N ρ).tmps j = none := by
  unfold yielded
  rw [ho]
  by_cases h1 : dj < N
  · simp [en, h1, hv, undef]
  · simp [en, h1]
theorem g_no0 {op : Op} {j : Nat} {b : Bool} (hy : yielded ops (en N ρ).tmps j = none) (h : wpList P ops Q rest (en N (up ρ d (.tuple #[]))) w) : wpList P ops Q (⟨some d, op, ty, pos, aft, some (j, b)⟩ :: rest) (en N ρ) w := by
  unfold wpList
  rw [if_neg (by simp [Region.wanted, hy]), en_put]
  exact h
theorem q_no0 {C : World → Prop} {Qa : Act → Prop} {op : Op} {j : Nat} {b : Bool} (hy : yielded ops (en N ρ).tmps j = none) (h : wpQuiet P ops C Qa rest (en N (up ρ d (.tuple #[])))) : wpQuiet P ops C Qa (⟨some d, op, ty, pos, aft, some (j, b)⟩ :: rest) (en N ρ) := by
  unfold wpQuiet
  rw [if_neg (by simp [Region.wanted, hy]), en_put]
  exact h

/-- An operation that turns memory. -/
theorem st_m {op : Op} {F : Value → World → Prop} (h : ∃ v w', Ex P N ρ w op ty v w' ∧ F v w') (k : ∀ v w', F v w' → wpList P ops Q rest (en N (up ρ d v)) w') : wpList P ops Q (⟨some d, op, ty, pos, aft, none⟩ :: rest) (en N ρ) w := by
  obtain ⟨v, w', hr, hF⟩ := h
  exact st hr (k v w' hF)
theorem st_m0 {op : Op} {F : World → Prop} (h : ∃ w', Ex0 P N ρ w op ty w' ∧ F w') (k : ∀ w', F w' → wpList P ops Q rest (en N ρ) w') : wpList P ops Q (⟨none, op, ty, pos, aft, none⟩ :: rest) (en N ρ) w := by
  obtain ⟨w', hr, hF⟩ := h
  exact st0 hr (k w' hF)

/-! ### regions that draw, and only read -/
variable {H : Hp} {L : List Res}
theorem q_region {id : Nat} {l : List Oper} (hm : P.follows .mixedOrders = true) (hs : St H w L) (hB : Region.lexB .any l.toArray = true)
    (h : wpQuiet P l.toArray (fun w' => St H w' L) (fun a' => ∀ w', St H w' L → Q .normal a' w') l (en N ρ)) : (Code.region id l.toArray true).wp P Q (en N ρ) w :=
  wp_region_quiet (C := fun w' => St H w' L) hm hB (hs.drawn _) h
section
variable {C : World → Prop} {Qa : Act → Prop}
theorem q_nil (h : Qa (en N ρ)) : wpQuiet P ops C Qa [] (en N ρ) := h
theorem q_st {op : Op} {v : Value} (hr : ∀ w, C w → Ex P N ρ w op ty v w) (h : wpQuiet P ops C Qa rest (en N (up ρ d v))) : wpQuiet P ops C Qa (⟨some d, op, ty, pos, aft, none⟩ :: rest) (en N ρ) := by
  unfold wpQuiet
  rw [if_pos (by simp [Region.wanted])]
  refine ⟨v, fun w hw => ?_, by rw [en_put]; exact h⟩
  unfold Oper.quietAt
  rw [hr w hw]
  exact ⟨rfl, rfl⟩
theorem q_yes {o : Option Tmp} {op : Op} {j : Nat} {b : Bool} (hy : yielded ops (en N ρ).tmps j = some b) (h : wpQuiet P ops C Qa (⟨o, op, ty, pos, aft, none⟩ :: rest) (en N ρ)) : wpQuiet P ops C Qa (⟨o, op, ty, pos, aft, some (j, b)⟩ :: rest) (en N ρ) := by
  have h' := h
  unfold wpQuiet at h' ⊢
  rw [if_pos (by simp [Region.wanted])] at h'
  rw [if_pos (by simp [Region.wanted, hy])]
  exact h'
theorem q_no {op : Op} {j : Nat} {b c : Bool} (hy : yielded ops (en N ρ).tmps j = some c) (hn : (c == b) = false) (h : wpQuiet P ops C Qa rest (en N (up ρ d (.tuple #[])))) : wpQuiet P ops C Qa (⟨some d, op, ty, pos, aft, some (j, b)⟩ :: rest) (en N ρ) := by
  unfold wpQuiet
  have e2 : Region.wanted ⟨some d, op, ty, pos, aft, some (j, b)⟩ (yielded ops (en N ρ).tmps) = false := by
    simp [Region.wanted, hy]
    simpa using hn
  rw [if_neg (by simp [e2]), en_put]
  exact h
theorem q_c {f : FuncId} {fv : Operand} {xs : Array Operand} {ats : Array TypeId} {vs : Array Value} {v : Value} (cb : Cb P f)
    (hfv : Ev N ρ fv (.func (.func f) #[] #[])) (hvs : xs.map (en N ρ).eval = vs)
    (hc : ∀ w, C w → Calls P f vs w (fun e w' => e = .returned v ∧ C w')) (h : wpQuiet P ops C Qa rest (en N (up ρ d v))) :
    wpQuiet P ops C Qa (⟨some d, .call { callee := .value fv, args := xs, argTypes := ats }, ty, pos, aft, none⟩ :: rest) (en N ρ) := by
  obtain ⟨fn, h1, h2, h3⟩ := cb
  have hb' : fn.body ≠ none := fun hh => by rw [hh] at h3; cases h3
  have hfv' : (en N ρ).eval fv = .func (.func f) #[] #[] := hfv
  unfold wpQuiet
  rw [if_pos (by simp [Region.wanted])]
  refine ⟨v, fun w hw => ?_, by rw [en_put]; exact h⟩
  unfold Oper.quietAt
  have hn : fn.name ≠ "runtime.NumGoroutine" := by simpa using h2
  have : (execOp (en N ρ).eval ⟨some d, .call { callee := .value fv, args := xs, argTypes := ats }, ty, pos, aft, none⟩).run P w = .ok (.enter f vs) w := by
    simp [execOp, resolve, Deferred.ofValue, hfv', hvs, invoke, callFunc, h1, hn, hb']
  rw [this]
  exact ⟨rfl, hc w hw⟩
end
end

/-! ### whole numbers that need no wrap -/
theorem w64 {z : Int} (h1 : -9223372036854775808 ≤ z) (h2 : z ≤ 9223372036854775807) : IntKind.i64.wrap z = z := by
  rw [IntKind.wrap_i64]; omega
theorem wU {k : IntKind} (hk : k.signed = false) {z : Int} {n : Nat} (h : z = n) (hb : n < 2 ^ k.bits) : k.wrap z = n := by
  rw [h]; exact wrap_nat k hk n hb
/-- Of any number, what is left of it in a kind without sign. -/
theorem wrapU (k : IntKind) (hk : k.signed = false) (z : Int) : k.wrap z = ((z % (2 ^ k.bits : Int)).toNat : Int) := by
  unfold IntKind.wrap
  rw [if_neg (by simp [hk])]
  have : 0 ≤ z % (2 ^ k.bits : Int) := Int.emod_nonneg _ (by have : (0:Int) < 2 ^ k.bits := Int.pow_pos (by omega); omega)
  omega
/-- Of a Nat. -/
theorem wrapN (k : IntKind) (hk : k.signed = false) (n : Nat) : k.wrap (n : Int) = ((n % 2 ^ k.bits : Nat) : Int) := by
  rw [wrapU k hk]
  have : ((n : Int) % (2 ^ k.bits : Int)) = ((n % 2 ^ k.bits : Nat) : Int) := by push_cast; rfl
  rw [this, Int.toNat_natCast]
theorem wMulN (k : IntKind) (hk : k.signed = false) {a b : Int} {m n : Nat} (ha : a = (m : Int)) (hb : b = (n : Int)) : k.wrap (a * b) = ((m * n % 2 ^ k.bits : Nat) : Int) := by
  rw [ha, hb, ← Int.natCast_mul]; exact wrapN k hk _
theorem wAddN (k : IntKind) (hk : k.signed = false) {a b : Int} {m n : Nat} (ha : a = (m : Int)) (hb : b = (n : Int)) : k.wrap (a + b) = (((m + n) % 2 ^ k.bits : Nat) : Int) := by
  rw [ha, hb, ← Int.natCast_add]; exact wrapN k hk _
theorem At.cell {w : World} {b o : Nat} {cs : List Value} (h : At w ⟨b, o, none⟩ cs) (k : Nat) {v : Value} (hv : cs[k]? = some v) : w.cell? ⟨b, o + k, none⟩ = some v := by
  have := h k v hv
  rwa [add_none] at this
theorem At.sub {w : World} {b o : Nat} {cs : List Value} (h : At w ⟨b, o, none⟩ cs) (k : Nat) {ds : List Value} (hd : (cs.drop k).take ds.length = ds) : At w ⟨b, o + k, none⟩ ds := by
  intro j u hu
  rw [add_none]
  have hj := (List.getElem?_eq_some_iff.1 hu).1
  rw [← hd, List.getElem?_take, if_pos hj, List.getElem?_drop] at hu
  have := h (k + j) u hu
  rw [add_none] at this
  rwa [Nat.add_assoc]
/-! ### some more operations -/
section
variable {P : Program} {N : Nat} {ρ : Nat → Value} {H : Hp} {w w' : World} {L : List Res} {t ty e size bytes n m c : Nat} {v : Value} {xs news : List Value} {x y : Operand} {z : Value} {xt yt : TypeId}
theorem one1 {v : Value} (h : v.oneCell' = true := by rfl) (hc : v.cells = #[v] := by rfl) : ∀ u ∈ v.cells.toList, u.oneCell' = true := by
  intro u hu
  rw [hc] at hu
  simp at hu
  rw [hu]; exact h
theorem m_app (hu : P.underlying t = some (.slice e)) (hi : Inf P e z size bytes) (hzs : z.cells.size = size) (h0 : 0 < size)
    (h : St H w (row e size v n xs :: L)) (ok : RowOk size v n xs) (hx : Ev N ρ x v) {a : Addr} (hy : Ev N ρ y (.slice (some a) m c)) (hl : news.length = m * size) (hnews : At w a news) (h1 : ∀ u ∈ news, u.oneCell' = true)
    (hb : (n + m) * bytes ≤ 140737488355328) (hb0 : 0 < bytes) :
    ∃ v' w', Ex P N ρ w (.call { callee := .builtin .append, args := #[x, y], argTypes := #[t, t] }) ty v' w' ∧ RowOk size v' (n + m) (xs ++ news) ∧ St H w' (row e size v' (n + m) (xs ++ news) :: L) := by
  obtain ⟨i0, e1, e2, e3, e4⟩ := hi
  exact m_append hu e1 e2 e3 e4 hzs h0 h ok hx hy hl hnews h1 hb hb0
theorem m_lit {parts : List (Nat × Operand)} {ps : List (Nat × Value)} {cs : List Value} (hu : P.underlying t = some (.slice e)) (hi : Inf P e z size bytes)
    (hps : Evp N ρ parts ps) (hn : n * size ≤ 16777216) (h0 : n * size ≠ 0)
    (hzs : z.cells.toList.length = size) (hf : fillL (fun i => some (i * size, size)) ((List.replicate n z.cells.toList).flatten) ps = some cs) (h : St H w L) :
    ∃ v' w', Ex P N ρ w (.buildSlice t n parts.toArray) ty v' w' ∧ ∃ g, v' = .slice (some ⟨g, 0, none⟩) n n ∧ St H w' (obj g e cs :: L) := by
  obtain ⟨i0, e1, e2, rfl, _⟩ := hi
  have hp : 0 < z.cells.toList.length := by
    rcases Nat.eq_zero_or_pos z.cells.toList.length with h1 | h1
    · rw [h1] at hzs; rw [← hzs] at h0; simp at h0
    · exact h1
  have hr := range_cells z.cells.toList n hp
  rw [Array.toArray_toList, hzs] at hr
  refine m_buildSlice hu e1 e2 hps.arr hn h0 ?_ rfl h
  rw [hr]
  exact fill_list _ _ _ _ hf
theorem x_bld {fs : Array Field} {s b : Nat} {places : List (Nat × Nat)} {parts : List (Nat × Operand)} {ps : List (Nat × Value)} {cs : List Value} (hu : P.underlying t = some (.struct fs)) (hi : Inf P t z s b)
    (hps : Evp N ρ parts ps) (hpl : fs.toList.map (fun (f : Field) => (f.offset, ((P.info? f.type).map (·.size)))) = places.map (fun p => (p.1, some p.2)))
    (hf : fillL (places[·]?) z.cells.toList ps = some cs) : Ex P N ρ w (.build t parts.toArray) ty (.agg cs.toArray) w := by
  obtain ⟨i0, e1, e2, _, _⟩ := hi
  refine x_build (places := places) hu e1 e2 hps.arr hpl ?_
  have := fill_list _ _ _ _ hf
  rwa [Array.toArray_toList] at this
theorem x_quoN {k : IntKind} {m n : Nat} (hx : Ev N ρ x (.int k (m : Int))) (hy : Ev N ρ y (.int k (n : Int))) (h0 : n ≠ 0) (hb : -9223372036854775808 ≤ ((m / n : Nat) : Int) ∧ k = .i64 ∧ ((m / n : Nat) : Int) ≤ 9223372036854775807 ∨ k.signed = false ∧ m < 2 ^ k.bits) : Ex P N ρ w (.binOp .quo xt x y yt) ty (.int k ((m / n : Nat) : Int)) w := by
  refine x_quo hx hy (by omega) ?_
  have : (m : Int).tdiv (n : Int) = ((m / n : Nat) : Int) := by rw [← Int.ofNat_tdiv]
  rw [this]
  rcases hb with ⟨h1, rfl, h2⟩ | ⟨h1, h2⟩
  · exact w64 h1 h2
  · exact wrap_nat k h1 _ (Nat.lt_of_le_of_lt (Nat.div_le_self _ _) h2)
theorem x_remN {k : IntKind} {m n : Nat} (hx : Ev N ρ x (.int k (m : Int))) (hy : Ev N ρ y (.int k (n : Int))) (h0 : n ≠ 0) : Ex P N ρ w (.binOp .rem xt x y yt) ty (.int k ((m % n : Nat) : Int)) w :=
  x_rem hx hy (by omega) (by rw [← Int.ofNat_tmod])
theorem x_eqlB {a b : Bool} (ht : P.underlying xt = some .bool) (hx : Ev N ρ x (.bool a)) (hy : Ev N ρ y (.bool b)) : Ex P N ρ w (.binOp .eql xt x y yt) ty (.bool (a == b)) w := fun _ _ _ _ => by
  have h1 : (en N ρ).eval x = .bool a := hx
  have h2 : (en N ρ).eval y = .bool b := hy
  have : (binOp .eql xt (.bool a) (.bool b)).run P w = .ok (.bool (a == b)) w := by
    simp [binOp, Op.equal, Op.maxDepth, run_equalIn_bool' w _ xt a b ht]
  simp [execOp, h1, h2, eqGuard_bool, this]
theorem x_neqB {a b : Bool} (ht : P.underlying xt = some .bool) (hx : Ev N ρ x (.bool a)) (hy : Ev N ρ y (.bool b)) : Ex P N ρ w (.binOp .neq xt x y yt) ty (.bool (a != b)) w := fun _ _ _ _ => by
  have h1 : (en N ρ).eval x = .bool a := hx
  have h2 : (en N ρ).eval y = .bool b := hy
  have : (binOp .neq xt (.bool a) (.bool b)).run P w = .ok (.bool (a != b)) w := by
    simp [binOp, Op.equal, Op.maxDepth, run_equalIn_bool' w _ xt a b ht, bne]
  simp [execOp, h1, h2, eqGuard_bool, this]
end
/-! ### structs held against each other -/
section
variable {P : Program} {N : Nat} {ρ : Nat → Value} {w : World} {d t ty : Nat} {xs ys : Array Value} {x y : Operand} {yt : TypeId}
/-- Fields, one behind the other. -/
def EqF (P : Program) (w : World) (d : Nat) (xs ys : Array Value) (l : List Field) (r : Bool) : Prop := (Op.eqFields d xs ys l).run P w = .ok r w
theorem EqF.nil : EqF P w d xs ys [] true := by simp [EqF, Op.eqFields]
theorem EqF.cons {f : Field} {l : List Field} {a b : Value} {r s : Bool} (hn : (f.name == "_") = false) (ha : (part f.type xs f.offset).run P w = .ok a w) (hb : (part f.type ys f.offset).run P w = .ok b w)
    (he : (Op.equalIn d f.type a b).run P w = .ok r w) (hr : EqF P w d xs ys l s) : EqF P w d xs ys (f :: l) (r && s) := by
  have hn' : f.name ≠ "_" := by simpa using hn
  unfold EqF at hr ⊢
  rw [Op.eqFields]
  simp only [if_pos hn', Sem.run_bind, ha, hb, he, Result.andThen_ok]
  cases r
  · simp
  · simpa using hr
theorem eq_struct {fs : Array Field} {r : Bool} (hu : P.underlying t = some (.struct fs)) (hp : P.stoodInHeld t = false) (h : EqF P w d xs ys fs.toList r) : (Op.equalIn (d + 1) t (.agg xs) (.agg ys)).run P w = .ok r w := by
  have hf : P.fieldsOf t = fs := by simp [Program.fieldsOf, hu]
  rw [run_equalIn_struct (P := P) w d t xs ys (by rw [hf]; exact hu) hp, hf]
  exact h
theorem part_one {t off : Nat} (hs : scalarT P t = true) {v : Value} (hv : xs[off]? = some v) : (part t xs off).run P w = .ok v w := by
  simp [part, run_isAgg_f hs, hv]
theorem part_agg {t off s b : Nat} {z : Value} (hs : aggT P t = true) (hi : Inf P t z s b) {c : Array Value} (hv : xs.extract off (off + s) = c) : (part t xs off).run P w = .ok (.agg c) w := by
  obtain ⟨i0, h1, _, h3, _⟩ := hi
  simp [part, run_isAgg_t hs, sizeOf, typeInfo, h1, h3, hv]
theorem eq_int' {k : IntKind} (hu : P.underlying t = some (.int k)) (a b : Int) : (Op.equalIn (d + 1) t (.int k a) (.int k b)).run P w = .ok (a == b) w := run_equalIn_int w d t k k a b hu
theorem eq_bool' (hu : P.underlying t = some .bool) (a b : Bool) : (Op.equalIn (d + 1) t (.bool a) (.bool b)).run P w = .ok (a == b) w := run_equalIn_bool' w d t a b hu
theorem x_eqlA {r : Bool} (hg : P.eqGuardType P.depth t = false) (hx : Ev N ρ x (.agg xs)) (hy : Ev N ρ y (.agg ys)) (h : ∀ d, (Op.equalIn (d + 100) t (.agg xs) (.agg ys)).run P w = .ok r w) : Ex P N ρ w (.binOp .eql t x y yt) ty (.bool r) w := fun _ _ _ _ => by
  have h1 : (en N ρ).eval x = .agg xs := hx
  have h2 : (en N ρ).eval y = .agg ys := hy
  have h3 := h 9900
  simp only [execOp, h1, h2, Sem.run_bind, run_eqGuard_agg w .eql t x y xs ys hg, Result.andThen_ok, run_eql_struct, h3, Sem.run_pure]
theorem x_neqA {r : Bool} (hg : P.eqGuardType P.depth t = false) (hx : Ev N ρ x (.agg xs)) (hy : Ev N ρ y (.agg ys)) (h : ∀ d, (Op.equalIn (d + 100) t (.agg xs) (.agg ys)).run P w = .ok r w) : Ex P N ρ w (.binOp .neq t x y yt) ty (.bool (!r)) w := fun _ _ _ _ => by
  have h1 : (en N ρ).eval x = .agg xs := hx
  have h2 : (en N ρ).eval y = .agg ys := hy
  have h3 := h 9900
  simp only [execOp, h1, h2, Sem.run_bind, run_eqGuard_agg w .neq t x y xs ys hg, Result.andThen_ok, run_neq_struct, h3, Sem.run_pure]
end
/-- A string's place. -/
theorem x_indexStrN {P : Program} {N : Nat} {ρ : Nat → Value} {w : World} {ty : Nat} {x y : Operand} {xt : TypeId} {k : IntKind} {s : ByteArray} {n m : Nat} (hu : P.underlying xt = some .string) (hx : Ev N ρ x (.string s)) (hy : Ev N ρ y (.int k (n : Int))) {b : UInt8} (h1 : s[n]? = some b) (h2 : b.toNat = m) :
    Ex P N ρ w (.index xt x y) ty (.int .u8 (m : Int)) w := by
  subst h2
  exact x_indexStr hu hx hy (by omega) (by simpa using h1)
/-- A list of nodes as cells. -/
def encI (i : Nat) : Value := .int .i64 (i : Int)
theorem RowOk.snoc {α : Type} {enc : α → Value} {l : List α} {x : α} {v : Value} (h : RowOk 1 v (l.length + 1) (l.map enc ++ [enc x])) : RowOk 1 v (l ++ [x]).length ((l ++ [x]).map enc) := by
  simpa using h
theorem St.rowSnoc {H : Hp} {w : World} {L : List Res} {e : Nat} {α : Type} {enc : α → Value} {l : List α} {x : α} {v : Value} (h : St H w (row e 1 v (l.length + 1) (l.map enc ++ [enc x]) :: L)) : St H w (row e 1 v (l ++ [x]).length ((l ++ [x]).map enc) :: L) := by
  simpa using h
theorem ret_true {b : Bool} (h : b = true) : Ending.returned (.bool b) = .returned (.bool true) := by rw [h]
end Go.FM
