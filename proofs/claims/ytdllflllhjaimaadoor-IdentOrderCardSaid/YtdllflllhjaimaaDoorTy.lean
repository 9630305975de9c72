/- Facts on the types and functions of this seat, printed by gen.py. -/
import Derived.Test.YtdllflllhjaimaaDoorProg
import Derived.Test.YtdllflllhjaimaaDoorFmE
set_option linter.unusedVariables false
set_option linter.unusedSimpArgs false
namespace Go.Proofs.YtdllflllhjaimaaDoor
open Go Go.FM Go.Proofs
set_option maxRecDepth 100000
theorem mixed : Tryd.prog.follows .mixedOrders = true := by kernel_rfl
theorem inf3 : Inf Tryd.prog 3 (.int .i64 0) 1 8 := Inf.mk (by kernel_rfl)
theorem inf5 : Inf Tryd.prog 5 (.int .u8 0) 1 1 := Inf.mk (by kernel_rfl)
theorem inf32 : Inf Tryd.prog 32 (.int .u64 0) 1 8 := Inf.mk (by kernel_rfl)
theorem inf34 : Inf Tryd.prog 34 (.agg #[.int .u64 0, .int .i64 0]) 2 16 := Inf.mk (by kernel_rfl)
theorem sc3 : scalarT Tryd.prog 3 = true := by kernel_rfl
theorem ld3 {N : Nat} {ρ : Nat → Value} {w : World} {ty : Nat} {x : Operand} {ad : Addr} {v : Value} (hx : Ev N ρ x (.pointer (some ad))) (hc : w.cell? ad = some v) : Ex Tryd.prog N ρ w (.load 3 x) ty v w := x_load sc3 hx hc
theorem sto3 {N : Nat} {ρ : Nat → Value} {H : Hp} {w : World} {L : List Res} {g T ty i : Nat} {x y : Operand} {cs cs' : List Value} {v : Value} (h : St H w (obj g T cs :: L)) (hx : Ev N ρ x (.pointer (some ⟨g, i, none⟩))) (hy : Ev N ρ y v) (hsz : v.cells.size = 1) (hl : i + 1 ≤ cs.length) (h1 : ∀ u ∈ v.cells.toList, u.oneCell' = true) (hsp : splice cs i v.cells.toList = cs') : ∃ w', Ex0 Tryd.prog N ρ w (.store 3 x y) ty w' ∧ St H w' (obj g T cs' :: L) := by
  obtain ⟨i0, e1, _, e3, _⟩ := inf3
  exact m_store e1 h hx hy (by rw [e3]; exact hsz) (by rw [e3]; exact hl) h1 hsp
theorem stor3 {N : Nat} {ρ : Nat → Value} {H : Hp} {w : World} {L : List Res} {g e size n cap ty i : Nat} {x y : Operand} {xs xs' : List Value} {v u : Value} (h : St H w (row e size v n xs :: L)) (hv : v = .slice (some ⟨g, 0, none⟩) n cap) (hx : Ev N ρ x (.pointer (some ⟨g, i, none⟩))) (hy : Ev N ρ y u) (hsz : u.cells.size = 1) (hl : i + 1 ≤ xs.length) (h1 : ∀ u' ∈ u.cells.toList, u'.oneCell' = true) (hsp : splice xs i u.cells.toList = xs') : ∃ w', Ex0 Tryd.prog N ρ w (.store 3 x y) ty w' ∧ St H w' (row e size v n xs' :: L) := by
  obtain ⟨i0, e1, _, e3, _⟩ := inf3
  exact m_storeRow e1 h hv hx hy (by rw [e3]; exact hsz) (by rw [e3]; exact hl) h1 hsp
theorem al3 {N : Nat} {ρ : Nat → Value} {H : Hp} {w : World} {L : List Res} {ty : Nat} {cs : List Value} (h : St H w L) (hv : (.int .i64 0 : Value).cells = cs.toArray) : ∃ v' w', Ex Tryd.prog N ρ w (.alloc 3) ty v' w' ∧ ∃ g, v' = .pointer (some ⟨g, 0, none⟩) ∧ St H w' (obj g 3 cs :: L) := by
  obtain ⟨i0, e1, e2, _, _⟩ := inf3
  exact m_alloc e1 e2 h hv
theorem sc5 : scalarT Tryd.prog 5 = true := by kernel_rfl
theorem ld5 {N : Nat} {ρ : Nat → Value} {w : World} {ty : Nat} {x : Operand} {ad : Addr} {v : Value} (hx : Ev N ρ x (.pointer (some ad))) (hc : w.cell? ad = some v) : Ex Tryd.prog N ρ w (.load 5 x) ty v w := x_load sc5 hx hc
theorem sto5 {N : Nat} {ρ : Nat → Value} {H : Hp} {w : World} {L : List Res} {g T ty i : Nat} {x y : Operand} {cs cs' : List Value} {v : Value} (h : St H w (obj g T cs :: L)) (hx : Ev N ρ x (.pointer (some ⟨g, i, none⟩))) (hy : Ev N ρ y v) (hsz : v.cells.size = 1) (hl : i + 1 ≤ cs.length) (h1 : ∀ u ∈ v.cells.toList, u.oneCell' = true) (hsp : splice cs i v.cells.toList = cs') : ∃ w', Ex0 Tryd.prog N ρ w (.store 5 x y) ty w' ∧ St H w' (obj g T cs' :: L) := by
  obtain ⟨i0, e1, _, e3, _⟩ := inf5
  exact m_store e1 h hx hy (by rw [e3]; exact hsz) (by rw [e3]; exact hl) h1 hsp
theorem stor5 {N : Nat} {ρ : Nat → Value} {H : Hp} {w : World} {L : List Res} {g e size n cap ty i : Nat} {x y : Operand} {xs xs' : List Value} {v u : Value} (h : St H w (row e size v n xs :: L)) (hv : v = .slice (some ⟨g, 0, none⟩) n cap) (hx : Ev N ρ x (.pointer (some ⟨g, i, none⟩))) (hy : Ev N ρ y u) (hsz : u.cells.size = 1) (hl : i + 1 ≤ xs.length) (h1 : ∀ u' ∈ u.cells.toList, u'.oneCell' = true) (hsp : splice xs i u.cells.toList = xs') : ∃ w', Ex0 Tryd.prog N ρ w (.store 5 x y) ty w' ∧ St H w' (row e size v n xs' :: L) := by
  obtain ⟨i0, e1, _, e3, _⟩ := inf5
  exact m_storeRow e1 h hv hx hy (by rw [e3]; exact hsz) (by rw [e3]; exact hl) h1 hsp
theorem al5 {N : Nat} {ρ : Nat → Value} {H : Hp} {w : World} {L : List Res} {ty : Nat} {cs : List Value} (h : St H w L) (hv : (.int .u8 0 : Value).cells = cs.toArray) : ∃ v' w', Ex Tryd.prog N ρ w (.alloc 5) ty v' w' ∧ ∃ g, v' = .pointer (some ⟨g, 0, none⟩) ∧ St H w' (obj g 5 cs :: L) := by
  obtain ⟨i0, e1, e2, _, _⟩ := inf5
  exact m_alloc e1 e2 h hv
theorem sc32 : scalarT Tryd.prog 32 = true := by kernel_rfl
theorem ld32 {N : Nat} {ρ : Nat → Value} {w : World} {ty : Nat} {x : Operand} {ad : Addr} {v : Value} (hx : Ev N ρ x (.pointer (some ad))) (hc : w.cell? ad = some v) : Ex Tryd.prog N ρ w (.load 32 x) ty v w := x_load sc32 hx hc
theorem sto32 {N : Nat} {ρ : Nat → Value} {H : Hp} {w : World} {L : List Res} {g T ty i : Nat} {x y : Operand} {cs cs' : List Value} {v : Value} (h : St H w (obj g T cs :: L)) (hx : Ev N ρ x (.pointer (some ⟨g, i, none⟩))) (hy : Ev N ρ y v) (hsz : v.cells.size = 1) (hl : i + 1 ≤ cs.length) (h1 : ∀ u ∈ v.cells.toList, u.oneCell' = true) (hsp : splice cs i v.cells.toList = cs') : ∃ w', Ex0 Tryd.prog N ρ w (.store 32 x y) ty w' ∧ St H w' (obj g T cs' :: L) := by
  obtain ⟨i0, e1, _, e3, _⟩ := inf32
  exact m_store e1 h hx hy (by rw [e3]; exact hsz) (by rw [e3]; exact hl) h1 hsp
theorem stor32 {N : Nat} {ρ : Nat → Value} {H : Hp} {w : World} {L : List Res} {g e size n cap ty i : Nat} {x y : Operand} {xs xs' : List Value} {v u : Value} (h : St H w (row e size v n xs :: L)) (hv : v = .slice (some ⟨g, 0, none⟩) n cap) (hx : Ev N ρ x (.pointer (some ⟨g, i, none⟩))) (hy : Ev N ρ y u) (hsz : u.cells.size = 1) (hl : i + 1 ≤ xs.length) (h1 : ∀ u' ∈ u.cells.toList, u'.oneCell' = true) (hsp : splice xs i u.cells.toList = xs') : ∃ w', Ex0 Tryd.prog N ρ w (.store 32 x y) ty w' ∧ St H w' (row e size v n xs' :: L) := by
  obtain ⟨i0, e1, _, e3, _⟩ := inf32
  exact m_storeRow e1 h hv hx hy (by rw [e3]; exact hsz) (by rw [e3]; exact hl) h1 hsp
theorem al32 {N : Nat} {ρ : Nat → Value} {H : Hp} {w : World} {L : List Res} {ty : Nat} {cs : List Value} (h : St H w L) (hv : (.int .u64 0 : Value).cells = cs.toArray) : ∃ v' w', Ex Tryd.prog N ρ w (.alloc 32) ty v' w' ∧ ∃ g, v' = .pointer (some ⟨g, 0, none⟩) ∧ St H w' (obj g 32 cs :: L) := by
  obtain ⟨i0, e1, e2, _, _⟩ := inf32
  exact m_alloc e1 e2 h hv
theorem ag34 : aggT Tryd.prog 34 = true := by kernel_rfl
theorem ld34 {N : Nat} {ρ : Nat → Value} {w : World} {ty : Nat} {x : Operand} {ad : Addr} {cs : List Value} (hx : Ev N ρ x (.pointer (some ad))) (hc : At w ad cs) (hl : cs.length = 2) : Ex Tryd.prog N ρ w (.load 34 x) ty (.agg cs.toArray) w := by
  obtain ⟨i0, h1, _, h3, _⟩ := inf34
  exact x_loadA ag34 h1 hx hc (by rw [h3]; exact hl)
theorem lv34 {w : World} {ad : Addr} {cs : List Value} (hc : At w ad cs) (hl : cs.length = 2) : (loadVar 34 ad).run Tryd.prog w = .ok (.agg cs.toArray) w := by
  obtain ⟨i0, h1, _, h3, _⟩ := inf34
  exact run_loadVar_t ag34 h1 hc (by rw [h3]; exact hl)
theorem sto34 {N : Nat} {ρ : Nat → Value} {H : Hp} {w : World} {L : List Res} {g T ty i : Nat} {x y : Operand} {cs cs' : List Value} {v : Value} (h : St H w (obj g T cs :: L)) (hx : Ev N ρ x (.pointer (some ⟨g, i, none⟩))) (hy : Ev N ρ y v) (hsz : v.cells.size = 2) (hl : i + 2 ≤ cs.length) (h1 : ∀ u ∈ v.cells.toList, u.oneCell' = true) (hsp : splice cs i v.cells.toList = cs') : ∃ w', Ex0 Tryd.prog N ρ w (.store 34 x y) ty w' ∧ St H w' (obj g T cs' :: L) := by
  obtain ⟨i0, e1, _, e3, _⟩ := inf34
  exact m_store e1 h hx hy (by rw [e3]; exact hsz) (by rw [e3]; exact hl) h1 hsp
theorem stor34 {N : Nat} {ρ : Nat → Value} {H : Hp} {w : World} {L : List Res} {g e size n cap ty i : Nat} {x y : Operand} {xs xs' : List Value} {v u : Value} (h : St H w (row e size v n xs :: L)) (hv : v = .slice (some ⟨g, 0, none⟩) n cap) (hx : Ev N ρ x (.pointer (some ⟨g, i, none⟩))) (hy : Ev N ρ y u) (hsz : u.cells.size = 2) (hl : i + 2 ≤ xs.length) (h1 : ∀ u' ∈ u.cells.toList, u'.oneCell' = true) (hsp : splice xs i u.cells.toList = xs') : ∃ w', Ex0 Tryd.prog N ρ w (.store 34 x y) ty w' ∧ St H w' (row e size v n xs' :: L) := by
  obtain ⟨i0, e1, _, e3, _⟩ := inf34
  exact m_storeRow e1 h hv hx hy (by rw [e3]; exact hsz) (by rw [e3]; exact hl) h1 hsp
theorem al34 {N : Nat} {ρ : Nat → Value} {H : Hp} {w : World} {L : List Res} {ty : Nat} {cs : List Value} (h : St H w L) (hv : (.agg #[.int .u64 0, .int .i64 0] : Value).cells = cs.toArray) : ∃ v' w', Ex Tryd.prog N ρ w (.alloc 34) ty v' w' ∧ ∃ g, v' = .pointer (some ⟨g, 0, none⟩) ∧ St H w' (obj g 34 cs :: L) := by
  obtain ⟨i0, e1, e2, _, _⟩ := inf34
  exact m_alloc e1 e2 h hv
theorem fa34_0 {N : Nat} {ρ : Nat → Value} {w : World} {ty b o : Nat} {x : Operand} (hx : Ev N ρ x (.pointer (some ⟨b, o, none⟩))) : Ex Tryd.prog N ρ w (.fieldAddr 34 x 0) ty (.pointer (some ⟨b, o + 0, none⟩)) w := by
  obtain ⟨i0, h1, _, h3, _⟩ := inf32
  have := x_fieldAddr (ty := ty) (w := w) Tryd.underlying34 (f := 0) rfl h1 (by rw [h3]; decide) hx
  rwa [add_none] at this
theorem fa34_1 {N : Nat} {ρ : Nat → Value} {w : World} {ty b o : Nat} {x : Operand} (hx : Ev N ρ x (.pointer (some ⟨b, o, none⟩))) : Ex Tryd.prog N ρ w (.fieldAddr 34 x 1) ty (.pointer (some ⟨b, o + 1, none⟩)) w := by
  obtain ⟨i0, h1, _, h3, _⟩ := inf3
  have := x_fieldAddr (ty := ty) (w := w) Tryd.underlying34 (f := 1) rfl h1 (by rw [h3]; decide) hx
  rwa [add_none] at this
theorem ix28 {N : Nat} {ρ : Nat → Value} {w : World} {ty b o n c : Nat} {A : Option Addr} {x y : Operand} {k : IntKind} {i : Int} (hx : Ev N ρ x (.slice A n c)) (hA : A = some ⟨b, o, none⟩) (hy : Ev N ρ y (.int k i)) (h0 : 0 ≤ i) (h1 : i < n) : Ex Tryd.prog N ρ w (.indexAddr 28 x y) ty (.pointer (some ⟨b, o + i.toNat * 1, none⟩)) w := by
  obtain ⟨i0, e1, _, e3, _⟩ := inf3
  subst hA
  have := x_indexAddr (ty := ty) (w := w) Tryd.underlying28 e1 hx hy h0 h1
  rwa [add_none, e3] at this
theorem ixo28 {N : Nat} {ρ : Nat → Value} {w : World} {ty b o o' n c : Nat} {A : Option Addr} {x y : Operand} {k : IntKind} {i : Int} (hx : Ev N ρ x (.slice A n c)) (hA : A = some ⟨b, o, none⟩) (hy : Ev N ρ y (.int k i)) (h0 : 0 ≤ i) (h1 : i < n) (ho : o + i.toNat * 1 = o') : Ex Tryd.prog N ρ w (.indexAddr 28 x y) ty (.pointer (some ⟨b, o', none⟩)) w := by
  subst ho
  exact ix28 hx hA hy h0 h1
theorem ix43 {N : Nat} {ρ : Nat → Value} {w : World} {ty b o : Nat} {x y : Operand} {k : IntKind} {i : Int} (hx : Ev N ρ x (.pointer (some ⟨b, o, none⟩))) (hy : Ev N ρ y (.int k i)) (h0 : 0 ≤ i) (h1 : i < 32) : Ex Tryd.prog N ρ w (.indexAddr 43 x y) ty (.pointer (some ⟨b, o + i.toNat * 1, none⟩)) w := by
  obtain ⟨i0, e1, _, e3, _⟩ := inf5
  have := x_indexAddrArr (ty := ty) (w := w) (n := 32) Tryd.underlying43 e1 hx hy h0 h1
  rwa [add_none, e3] at this
theorem eqs34 (d : Nat) (w : World) (x0 y0 : Int) (x1 y1 : Int) : (Op.equalIn (d + 2) 34 (.agg #[.int .u64 x0, .int .i64 x1]) (.agg #[.int .u64 y0, .int .i64 y1])).run Tryd.prog w = .ok (((x0 == y0) && ((x1 == y1) && true))) w := by
  exact eq_struct (d := d + 1) Tryd.underlying34 (by kernel_rfl) (.cons (by kernel_rfl) (part_one (by kernel_rfl) rfl) (part_one (by kernel_rfl) rfl) (eq_int' (d := d + 0) Tryd.underlying32 _ _) (.cons (by kernel_rfl) (part_one (by kernel_rfl) rfl) (part_one (by kernel_rfl) rfl) (eq_int' (d := d + 0) Tryd.underlying3 _ _) EqF.nil))
theorem eqg34 : Tryd.prog.eqGuardType Tryd.prog.depth 34 = false := by kernel_rfl
theorem cb8 : Cb Tryd.prog 8 := ⟨Tryd.f8, Tryd.func8, by kernel_rfl, by kernel_rfl⟩
theorem cb9 : Cb Tryd.prog 9 := ⟨Tryd.f9, Tryd.func9, by kernel_rfl, by kernel_rfl⟩
theorem cb10 : Cb Tryd.prog 10 := ⟨Tryd.f10, Tryd.func10, by kernel_rfl, by kernel_rfl⟩
theorem cb11 : Cb Tryd.prog 11 := ⟨Tryd.f11, Tryd.func11, by kernel_rfl, by kernel_rfl⟩
theorem cb12 : Cb Tryd.prog 12 := ⟨Tryd.f12, Tryd.func12, by kernel_rfl, by kernel_rfl⟩
theorem cb13 : Cb Tryd.prog 13 := ⟨Tryd.f13, Tryd.func13, by kernel_rfl, by kernel_rfl⟩
theorem cb14 : Cb Tryd.prog 14 := ⟨Tryd.f14, Tryd.func14, by kernel_rfl, by kernel_rfl⟩
theorem cb15 : Cb Tryd.prog 15 := ⟨Tryd.f15, Tryd.func15, by kernel_rfl, by kernel_rfl⟩
theorem cb16 : Cb Tryd.prog 16 := ⟨Tryd.f16, Tryd.func16, by kernel_rfl, by kernel_rfl⟩
theorem cb17 : Cb Tryd.prog 17 := ⟨Tryd.f17, Tryd.func17, by kernel_rfl, by kernel_rfl⟩
theorem cb18 : Cb Tryd.prog 18 := ⟨Tryd.f18, Tryd.func18, by kernel_rfl, by kernel_rfl⟩
theorem cb19 : Cb Tryd.prog 19 := ⟨Tryd.f19, Tryd.func19, by kernel_rfl, by kernel_rfl⟩
theorem cb20 : Cb Tryd.prog 20 := ⟨Tryd.f20, Tryd.func20, by kernel_rfl, by kernel_rfl⟩
theorem cb21 : Cb Tryd.prog 21 := ⟨Tryd.f21, Tryd.func21, by kernel_rfl, by kernel_rfl⟩
theorem cb22 : Cb Tryd.prog 22 := ⟨Tryd.f22, Tryd.func22, by kernel_rfl, by kernel_rfl⟩
theorem cb23 : Cb Tryd.prog 23 := ⟨Tryd.f23, Tryd.func23, by kernel_rfl, by kernel_rfl⟩
theorem cb24 : Cb Tryd.prog 24 := ⟨Tryd.f24, Tryd.func24, by kernel_rfl, by kernel_rfl⟩
theorem cb25 : Cb Tryd.prog 25 := ⟨Tryd.f25, Tryd.func25, by kernel_rfl, by kernel_rfl⟩
theorem cb26 : Cb Tryd.prog 26 := ⟨Tryd.f26, Tryd.func26, by kernel_rfl, by kernel_rfl⟩
theorem cb27 : Cb Tryd.prog 27 := ⟨Tryd.f27, Tryd.func27, by kernel_rfl, by kernel_rfl⟩
theorem cb28 : Cb Tryd.prog 28 := ⟨Tryd.f28, Tryd.func28, by kernel_rfl, by kernel_rfl⟩
theorem cb29 : Cb Tryd.prog 29 := ⟨Tryd.f29, Tryd.func29, by kernel_rfl, by kernel_rfl⟩
theorem cb30 : Cb Tryd.prog 30 := ⟨Tryd.f30, Tryd.func30, by kernel_rfl, by kernel_rfl⟩
theorem cb31 : Cb Tryd.prog 31 := ⟨Tryd.f31, Tryd.func31, by kernel_rfl, by kernel_rfl⟩
end Go.Proofs.YtdllflllhjaimaaDoor
