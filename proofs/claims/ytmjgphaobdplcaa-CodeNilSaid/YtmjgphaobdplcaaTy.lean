/- Facts on the types and functions of this seat, printed by gen.py. -/
import Derived.Test.YtmjgphaobdplcaaProg
import Derived.Test.YtmjgphaobdplcaaFmE
set_option linter.unusedVariables false
set_option linter.unusedSimpArgs false
namespace Go.Proofs.Ytmjgphaobdplcaa
open Go Go.FM Go.Proofs
set_option maxRecDepth 100000
theorem mixed : Try.prog.follows .mixedOrders = true := by kernel_rfl
theorem inf5 : Inf Try.prog 5 (.int .u8 0) 1 1 := Inf.mk (by kernel_rfl)
theorem inf55 : Inf Try.prog 55 (.agg #[.int .u8 0, .int .u8 0, .int .u8 0, .int .u8 0]) 4 4 := Inf.mk (by kernel_rfl)
theorem sc5 : scalarT Try.prog 5 = true := by kernel_rfl
theorem ld5 {N : Nat} {ρ : Nat → Value} {w : World} {ty : Nat} {x : Operand} {ad : Addr} {v : Value} (hx : Ev N ρ x (.pointer (some ad))) (hc : w.cell? ad = some v) : Ex Try.prog N ρ w (.load 5 x) ty v w := x_load sc5 hx hc
theorem sto5 {N : Nat} {ρ : Nat → Value} {H : Hp} {w : World} {L : List Res} {g T ty i : Nat} {x y : Operand} {cs cs' : List Value} {v : Value} (h : St H w (obj g T cs :: L)) (hx : Ev N ρ x (.pointer (some ⟨g, i, none⟩))) (hy : Ev N ρ y v) (hsz : v.cells.size = 1) (hl : i + 1 ≤ cs.length) (h1 : ∀ u ∈ v.cells.toList, u.oneCell' = true) (hsp : splice cs i v.cells.toList = cs') : ∃ w', Ex0 Try.prog N ρ w (.store 5 x y) ty w' ∧ St H w' (obj g T cs' :: L) := by
  obtain ⟨i0, e1, _, e3, _⟩ := inf5
  exact m_store e1 h hx hy (by rw [e3]; exact hsz) (by rw [e3]; exact hl) h1 hsp
theorem stor5 {N : Nat} {ρ : Nat → Value} {H : Hp} {w : World} {L : List Res} {g e size n cap ty i : Nat} {x y : Operand} {xs xs' : List Value} {v u : Value} (h : St H w (row e size v n xs :: L)) (hv : v = .slice (some ⟨g, 0, none⟩) n cap) (hx : Ev N ρ x (.pointer (some ⟨g, i, none⟩))) (hy : Ev N ρ y u) (hsz : u.cells.size = 1) (hl : i + 1 ≤ xs.length) (h1 : ∀ u' ∈ u.cells.toList, u'.oneCell' = true) (hsp : splice xs i u.cells.toList = xs') : ∃ w', Ex0 Try.prog N ρ w (.store 5 x y) ty w' ∧ St H w' (row e size v n xs' :: L) := by
  obtain ⟨i0, e1, _, e3, _⟩ := inf5
  exact m_storeRow e1 h hv hx hy (by rw [e3]; exact hsz) (by rw [e3]; exact hl) h1 hsp
theorem al5 {N : Nat} {ρ : Nat → Value} {H : Hp} {w : World} {L : List Res} {ty : Nat} {cs : List Value} (h : St H w L) (hv : (.int .u8 0 : Value).cells = cs.toArray) : ∃ v' w', Ex Try.prog N ρ w (.alloc 5) ty v' w' ∧ ∃ g, v' = .pointer (some ⟨g, 0, none⟩) ∧ St H w' (obj g 5 cs :: L) := by
  obtain ⟨i0, e1, e2, _, _⟩ := inf5
  exact m_alloc e1 e2 h hv
theorem ag55 : aggT Try.prog 55 = true := by kernel_rfl
theorem ld55 {N : Nat} {ρ : Nat → Value} {w : World} {ty : Nat} {x : Operand} {ad : Addr} {cs : List Value} (hx : Ev N ρ x (.pointer (some ad))) (hc : At w ad cs) (hl : cs.length = 4) : Ex Try.prog N ρ w (.load 55 x) ty (.agg cs.toArray) w := by
  obtain ⟨i0, h1, _, h3, _⟩ := inf55
  exact x_loadA ag55 h1 hx hc (by rw [h3]; exact hl)
theorem lv55 {w : World} {ad : Addr} {cs : List Value} (hc : At w ad cs) (hl : cs.length = 4) : (loadVar 55 ad).run Try.prog w = .ok (.agg cs.toArray) w := by
  obtain ⟨i0, h1, _, h3, _⟩ := inf55
  exact run_loadVar_t ag55 h1 hc (by rw [h3]; exact hl)
theorem sto55 {N : Nat} {ρ : Nat → Value} {H : Hp} {w : World} {L : List Res} {g T ty i : Nat} {x y : Operand} {cs cs' : List Value} {v : Value} (h : St H w (obj g T cs :: L)) (hx : Ev N ρ x (.pointer (some ⟨g, i, none⟩))) (hy : Ev N ρ y v) (hsz : v.cells.size = 4) (hl : i + 4 ≤ cs.length) (h1 : ∀ u ∈ v.cells.toList, u.oneCell' = true) (hsp : splice cs i v.cells.toList = cs') : ∃ w', Ex0 Try.prog N ρ w (.store 55 x y) ty w' ∧ St H w' (obj g T cs' :: L) := by
  obtain ⟨i0, e1, _, e3, _⟩ := inf55
  exact m_store e1 h hx hy (by rw [e3]; exact hsz) (by rw [e3]; exact hl) h1 hsp
theorem stor55 {N : Nat} {ρ : Nat → Value} {H : Hp} {w : World} {L : List Res} {g e size n cap ty i : Nat} {x y : Operand} {xs xs' : List Value} {v u : Value} (h : St H w (row e size v n xs :: L)) (hv : v = .slice (some ⟨g, 0, none⟩) n cap) (hx : Ev N ρ x (.pointer (some ⟨g, i, none⟩))) (hy : Ev N ρ y u) (hsz : u.cells.size = 4) (hl : i + 4 ≤ xs.length) (h1 : ∀ u' ∈ u.cells.toList, u'.oneCell' = true) (hsp : splice xs i u.cells.toList = xs') : ∃ w', Ex0 Try.prog N ρ w (.store 55 x y) ty w' ∧ St H w' (row e size v n xs' :: L) := by
  obtain ⟨i0, e1, _, e3, _⟩ := inf55
  exact m_storeRow e1 h hv hx hy (by rw [e3]; exact hsz) (by rw [e3]; exact hl) h1 hsp
theorem al55 {N : Nat} {ρ : Nat → Value} {H : Hp} {w : World} {L : List Res} {ty : Nat} {cs : List Value} (h : St H w L) (hv : (.agg #[.int .u8 0, .int .u8 0, .int .u8 0, .int .u8 0] : Value).cells = cs.toArray) : ∃ v' w', Ex Try.prog N ρ w (.alloc 55) ty v' w' ∧ ∃ g, v' = .pointer (some ⟨g, 0, none⟩) ∧ St H w' (obj g 55 cs :: L) := by
  obtain ⟨i0, e1, e2, _, _⟩ := inf55
  exact m_alloc e1 e2 h hv
theorem ix22 {N : Nat} {ρ : Nat → Value} {w : World} {ty b o n c : Nat} {A : Option Addr} {x y : Operand} {k : IntKind} {i : Int} (hx : Ev N ρ x (.slice A n c)) (hA : A = some ⟨b, o, none⟩) (hy : Ev N ρ y (.int k i)) (h0 : 0 ≤ i) (h1 : i < n) : Ex Try.prog N ρ w (.indexAddr 22 x y) ty (.pointer (some ⟨b, o + i.toNat * 1, none⟩)) w := by
  obtain ⟨i0, e1, _, e3, _⟩ := inf5
  subst hA
  have := x_indexAddr (ty := ty) (w := w) Try.underlying22 e1 hx hy h0 h1
  rwa [add_none, e3] at this
theorem ixo22 {N : Nat} {ρ : Nat → Value} {w : World} {ty b o o' n c : Nat} {A : Option Addr} {x y : Operand} {k : IntKind} {i : Int} (hx : Ev N ρ x (.slice A n c)) (hA : A = some ⟨b, o, none⟩) (hy : Ev N ρ y (.int k i)) (h0 : 0 ≤ i) (h1 : i < n) (ho : o + i.toNat * 1 = o') : Ex Try.prog N ρ w (.indexAddr 22 x y) ty (.pointer (some ⟨b, o', none⟩)) w := by
  subst ho
  exact ix22 hx hA hy h0 h1
theorem eqg55 : Try.prog.eqGuardType Try.prog.depth 55 = false := by kernel_rfl
theorem cb9 : Cb Try.prog 9 := ⟨Try.f9, Try.func9, by kernel_rfl, by kernel_rfl⟩
theorem cb10 : Cb Try.prog 10 := ⟨Try.f10, Try.func10, by kernel_rfl, by kernel_rfl⟩
theorem cb11 : Cb Try.prog 11 := ⟨Try.f11, Try.func11, by kernel_rfl, by kernel_rfl⟩
theorem cb12 : Cb Try.prog 12 := ⟨Try.f12, Try.func12, by kernel_rfl, by kernel_rfl⟩
theorem cb13 : Cb Try.prog 13 := ⟨Try.f13, Try.func13, by kernel_rfl, by kernel_rfl⟩
theorem cb14 : Cb Try.prog 14 := ⟨Try.f14, Try.func14, by kernel_rfl, by kernel_rfl⟩
theorem cb15 : Cb Try.prog 15 := ⟨Try.f15, Try.func15, by kernel_rfl, by kernel_rfl⟩
theorem cb16 : Cb Try.prog 16 := ⟨Try.f16, Try.func16, by kernel_rfl, by kernel_rfl⟩
theorem cb18 : Cb Try.prog 18 := ⟨Try.f18, Try.func18, by kernel_rfl, by kernel_rfl⟩
theorem cb19 : Cb Try.prog 19 := ⟨Try.f19, Try.func19, by kernel_rfl, by kernel_rfl⟩
theorem cb20 : Cb Try.prog 20 := ⟨Try.f20, Try.func20, by kernel_rfl, by kernel_rfl⟩
theorem cb21 : Cb Try.prog 21 := ⟨Try.f21, Try.func21, by kernel_rfl, by kernel_rfl⟩
theorem cb22 : Cb Try.prog 22 := ⟨Try.f22, Try.func22, by kernel_rfl, by kernel_rfl⟩
theorem cb27 : Cb Try.prog 27 := ⟨Try.f27, Try.func27, by kernel_rfl, by kernel_rfl⟩
theorem cb28 : Cb Try.prog 28 := ⟨Try.f28, Try.func28, by kernel_rfl, by kernel_rfl⟩
end Go.Proofs.Ytmjgphaobdplcaa
