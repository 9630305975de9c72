/- Facts on the types and functions of this seat, printed by gen.py. -/
import Derived.Test.YtojlmilkdijiaaaDoorProg
import Derived.Test.YtojlmilkdijiaaaDoorFmE
set_option linter.unusedVariables false
set_option linter.unusedSimpArgs false
namespace Go.Proofs.YtojlmilkdijiaaaDoor
open Go Go.FM Go.Proofs
set_option maxRecDepth 100000
theorem mixed : Tryd.prog.follows .mixedOrders = true := by kernel_rfl
theorem inf2 : Inf Tryd.prog 2 (.int .i64 0) 1 8 := Inf.mk (by kernel_rfl)
theorem inf3 : Inf Tryd.prog 3 (.int .i64 0) 1 8 := Inf.mk (by kernel_rfl)
theorem inf4 : Inf Tryd.prog 4 (.bool false) 1 1 := Inf.mk (by kernel_rfl)
theorem inf5 : Inf Tryd.prog 5 (.int .u8 0) 1 1 := Inf.mk (by kernel_rfl)
theorem inf6 : Inf Tryd.prog 6 (.int .u8 0) 1 1 := Inf.mk (by kernel_rfl)
theorem inf7 : Inf Tryd.prog 7 (.agg #[.int .i64 0, .int .i64 0, .bool false, .int .u8 0]) 4 24 := Inf.mk (by kernel_rfl)
theorem inf8 : Inf Tryd.prog 8 (.agg #[.int .i64 0, .int .i64 0, .bool false, .int .u8 0]) 4 24 := Inf.mk (by kernel_rfl)
theorem inf9 : Inf Tryd.prog 9 (.string ⟨#[]⟩) 1 16 := Inf.mk (by kernel_rfl)
theorem inf10 : Inf Tryd.prog 10 (.string ⟨#[]⟩) 1 16 := Inf.mk (by kernel_rfl)
theorem inf11 : Inf Tryd.prog 11 (.string ⟨#[]⟩) 1 16 := Inf.mk (by kernel_rfl)
theorem inf12 : Inf Tryd.prog 12 (.int .u64 0) 1 8 := Inf.mk (by kernel_rfl)
theorem inf13 : Inf Tryd.prog 13 (.agg #[.string ⟨#[]⟩, .int .u64 0]) 2 24 := Inf.mk (by kernel_rfl)
theorem inf14 : Inf Tryd.prog 14 (.agg #[.string ⟨#[]⟩, .int .u64 0]) 2 24 := Inf.mk (by kernel_rfl)
theorem inf15 : Inf Tryd.prog 15 (.pointer none) 1 8 := Inf.mk (by kernel_rfl)
theorem inf16 : Inf Tryd.prog 16 (.pointer none) 1 8 := Inf.mk (by kernel_rfl)
theorem inf17 : Inf Tryd.prog 17 (.pointer none) 1 8 := Inf.mk (by kernel_rfl)
theorem inf18 : Inf Tryd.prog 18 (.agg #[.pointer none]) 1 8 := Inf.mk (by kernel_rfl)
theorem inf19 : Inf Tryd.prog 19 (.agg #[.pointer none]) 1 8 := Inf.mk (by kernel_rfl)
theorem inf21 : Inf Tryd.prog 21 (.int .i32 0) 1 4 := Inf.mk (by kernel_rfl)
theorem inf22 : Inf Tryd.prog 22 (.slice none 0 0) 1 24 := Inf.mk (by kernel_rfl)
theorem inf24 : Inf Tryd.prog 24 (.pointer none) 1 8 := Inf.mk (by kernel_rfl)
theorem inf25 : Inf Tryd.prog 25 (.int .i64 0) 1 8 := Inf.mk (by kernel_rfl)
theorem inf29 : Inf Tryd.prog 29 (.int .u16 0) 1 2 := Inf.mk (by kernel_rfl)
theorem inf34 : Inf Tryd.prog 34 (.slice none 0 0) 1 24 := Inf.mk (by kernel_rfl)
theorem inf36 : Inf Tryd.prog 36 (.agg #[.int .i64 0, .int .i64 0, .slice none 0 0]) 3 40 := Inf.mk (by kernel_rfl)
theorem inf37 : Inf Tryd.prog 37 (.agg #[.int .i64 0, .int .i64 0, .slice none 0 0]) 3 40 := Inf.mk (by kernel_rfl)
theorem inf43 : Inf Tryd.prog 43 (.slice none 0 0) 1 24 := Inf.mk (by kernel_rfl)
theorem inf44 : Inf Tryd.prog 44 (.slice none 0 0) 1 24 := Inf.mk (by kernel_rfl)
theorem inf49 : Inf Tryd.prog 49 (.slice none 0 0) 1 24 := Inf.mk (by kernel_rfl)
theorem inf50 : Inf Tryd.prog 50 (.pointer none) 1 8 := Inf.mk (by kernel_rfl)
theorem inf51 : Inf Tryd.prog 51 (.slice none 0 0) 1 24 := Inf.mk (by kernel_rfl)
theorem inf52 : Inf Tryd.prog 52 (.slice none 0 0) 1 24 := Inf.mk (by kernel_rfl)
theorem inf53 : Inf Tryd.prog 53 (.agg #[.bool false, .bool false, .bool false, .bool false, .bool false, .bool false, .bool false, .bool false, .bool false, .bool false, .bool false, .bool false, .bool false, .bool false, .bool false, .bool false]) 16 16 := Inf.mk (by kernel_rfl)
theorem inf54 : Inf Tryd.prog 54 (.agg #[.bool false, .bool false, .bool false, .bool false, .bool false, .bool false, .bool false, .bool false, .bool false, .bool false, .bool false, .bool false, .bool false, .bool false, .bool false, .bool false, .bool false, .bool false, .bool false, .bool false, .bool false, .bool false, .bool false, .bool false, .bool false, .bool false, .bool false, .bool false, .bool false, .bool false, .bool false, .bool false, .bool false, .bool false, .bool false, .bool false, .bool false, .bool false, .bool false, .bool false, .bool false, .bool false, .bool false, .bool false, .bool false, .bool false, .bool false, .bool false, .bool false, .bool false, .bool false, .bool false, .bool false, .bool false, .bool false, .bool false, .bool false, .bool false, .bool false, .bool false, .bool false, .bool false, .bool false, .bool false, .bool false, .bool false, .bool false, .bool false, .bool false, .bool false, .bool false, .bool false, .bool false, .bool false, .bool false, .bool false, .bool false, .bool false, .bool false, .bool false, .bool false, .bool false, .bool false, .bool false, .bool false, .bool false, .bool false, .bool false, .bool false, .bool false, .bool false, .bool false, .bool false, .bool false, .bool false, .bool false, .bool false, .bool false, .bool false, .bool false, .bool false, .bool false, .bool false, .bool false, .bool false, .bool false, .bool false, .bool false, .bool false, .bool false, .bool false, .bool false, .bool false, .bool false, .bool false, .bool false, .bool false, .bool false, .bool false, .bool false, .bool false, .bool false, .bool false, .bool false, .bool false, .bool false, .bool false, .bool false, .bool false, .bool false, .bool false, .bool false, .bool false, .bool false, .bool false, .bool false, .bool false, .bool false, .bool false, .bool false, .bool false, .bool false, .bool false, .bool false, .bool false, .bool false, .bool false, .bool false, .bool false, .bool false, .bool false, .bool false, .bool false, .bool false, .bool false, .bool false, .bool false, .bool false, .bool false, .bool false, .bool false, .bool false, .bool false, .bool false, .bool false, .bool false, .bool false, .bool false, .bool false, .bool false, .bool false, .bool false, .bool false, .bool false, .bool false, .bool false, .bool false, .bool false, .bool false, .bool false, .bool false, .bool false, .bool false, .bool false, .bool false, .bool false, .bool false, .bool false, .bool false, .bool false, .bool false, .bool false, .bool false, .bool false, .bool false, .bool false, .bool false, .bool false, .bool false, .bool false, .bool false, .bool false, .bool false, .bool false, .bool false, .bool false, .bool false, .bool false, .bool false, .bool false, .bool false, .bool false, .bool false, .bool false, .bool false, .bool false, .bool false, .bool false, .bool false, .bool false, .bool false, .bool false, .bool false, .bool false, .bool false, .bool false, .bool false, .bool false, .bool false, .bool false, .bool false, .bool false, .bool false, .bool false, .bool false, .bool false, .bool false, .bool false, .bool false, .bool false, .bool false, .bool false, .bool false, .bool false, .bool false, .bool false, .bool false, .bool false, .bool false, .bool false, .bool false, .bool false, .bool false, .bool false, .bool false, .bool false]) 256 256 := Inf.mk (by kernel_rfl)
theorem inf55 : Inf Tryd.prog 55 (.agg #[.int .i64 0, .slice none 0 0, .slice none 0 0, .bool false, .bool false, .bool false, .bool false, .bool false, .bool false, .bool false, .bool false, .bool false, .bool false, .bool false, .bool false, .bool false, .bool false, .bool false, .bool false, .bool false, .bool false, .bool false, .bool false, .bool false, .bool false, .bool false, .bool false, .bool false, .bool false, .bool false, .bool false, .bool false, .bool false, .bool false, .bool false, .bool false, .bool false, .bool false, .bool false, .bool false, .bool false, .bool false, .bool false, .bool false, .bool false, .bool false, .bool false, .bool false, .bool false, .bool false, .bool false, .bool false, .bool false, .bool false, .bool false, .bool false, .bool false, .bool false, .bool false, .bool false, .bool false, .bool false, .bool false, .bool false, .bool false, .bool false, .bool false, .bool false, .bool false, .bool false, .bool false, .bool false, .bool false, .bool false, .bool false, .bool false, .bool false, .bool false, .bool false, .bool false, .bool false, .bool false, .bool false, .bool false, .bool false, .bool false, .bool false, .bool false, .bool false, .bool false, .bool false, .bool false, .bool false, .bool false, .bool false, .bool false, .bool false, .bool false, .bool false, .bool false, .bool false, .bool false, .bool false, .bool false, .bool false, .bool false, .bool false, .bool false, .bool false, .bool false, .bool false, .bool false, .bool false, .bool false, .bool false, .bool false, .bool false, .bool false, .bool false, .bool false, .bool false, .bool false, .bool false, .bool false, .bool false, .bool false, .bool false, .bool false, .bool false, .bool false, .bool false, .bool false, .bool false, .bool false, .bool false, .bool false, .bool false, .bool false, .bool false, .bool false, .bool false, .bool false, .bool false, .bool false, .bool false, .bool false, .bool false, .bool false, .bool false, .bool false, .bool false, .bool false, .bool false, .bool false, .bool false, .bool false, .bool false, .bool false, .bool false, .bool false, .bool false, .bool false, .bool false, .bool false, .bool false, .bool false, .bool false, .bool false, .bool false, .bool false, .bool false, .bool false, .bool false, .bool false, .bool false, .bool false, .bool false, .bool false, .bool false, .bool false, .bool false, .bool false, .bool false, .bool false, .bool false, .bool false, .bool false, .bool false, .bool false, .bool false, .bool false, .bool false, .bool false, .bool false, .bool false, .bool false, .bool false, .bool false, .bool false, .bool false, .bool false, .bool false, .bool false, .bool false, .bool false, .bool false, .bool false, .bool false, .bool false, .bool false, .bool false, .bool false, .bool false, .bool false, .bool false, .bool false, .bool false, .bool false, .bool false, .bool false, .bool false, .bool false, .bool false, .bool false, .bool false, .bool false, .bool false, .bool false, .bool false, .bool false, .bool false, .bool false, .bool false, .bool false, .bool false, .bool false, .bool false, .bool false, .bool false, .bool false, .bool false, .bool false, .bool false, .bool false, .bool false, .bool false, .bool false, .bool false, .bool false, .bool false, .bool false, .bool false, .bool false, .bool false, .bool false, .bool false, .bool false, .bool false, .bool false, .int .i64 0]) 260 320 := Inf.mk (by kernel_rfl)
theorem inf56 : Inf Tryd.prog 56 (.agg #[.int .i64 0, .slice none 0 0, .slice none 0 0, .bool false, .bool false, .bool false, .bool false, .bool false, .bool false, .bool false, .bool false, .bool false, .bool false, .bool false, .bool false, .bool false, .bool false, .bool false, .bool false, .bool false, .bool false, .bool false, .bool false, .bool false, .bool false, .bool false, .bool false, .bool false, .bool false, .bool false, .bool false, .bool false, .bool false, .bool false, .bool false, .bool false, .bool false, .bool false, .bool false, .bool false, .bool false, .bool false, .bool false, .bool false, .bool false, .bool false, .bool false, .bool false, .bool false, .bool false, .bool false, .bool false, .bool false, .bool false, .bool false, .bool false, .bool false, .bool false, .bool false, .bool false, .bool false, .bool false, .bool false, .bool false, .bool false, .bool false, .bool false, .bool false, .bool false, .bool false, .bool false, .bool false, .bool false, .bool false, .bool false, .bool false, .bool false, .bool false, .bool false, .bool false, .bool false, .bool false, .bool false, .bool false, .bool false, .bool false, .bool false, .bool false, .bool false, .bool false, .bool false, .bool false, .bool false, .bool false, .bool false, .bool false, .bool false, .bool false, .bool false, .bool false, .bool false, .bool false, .bool false, .bool false, .bool false, .bool false, .bool false, .bool false, .bool false, .bool false, .bool false, .bool false, .bool false, .bool false, .bool false, .bool false, .bool false, .bool false, .bool false, .bool false, .bool false, .bool false, .bool false, .bool false, .bool false, .bool false, .bool false, .bool false, .bool false, .bool false, .bool false, .bool false, .bool false, .bool false, .bool false, .bool false, .bool false, .bool false, .bool false, .bool false, .bool false, .bool false, .bool false, .bool false, .bool false, .bool false, .bool false, .bool false, .bool false, .bool false, .bool false, .bool false, .bool false, .bool false, .bool false, .bool false, .bool false, .bool false, .bool false, .bool false, .bool false, .bool false, .bool false, .bool false, .bool false, .bool false, .bool false, .bool false, .bool false, .bool false, .bool false, .bool false, .bool false, .bool false, .bool false, .bool false, .bool false, .bool false, .bool false, .bool false, .bool false, .bool false, .bool false, .bool false, .bool false, .bool false, .bool false, .bool false, .bool false, .bool false, .bool false, .bool false, .bool false, .bool false, .bool false, .bool false, .bool false, .bool false, .bool false, .bool false, .bool false, .bool false, .bool false, .bool false, .bool false, .bool false, .bool false, .bool false, .bool false, .bool false, .bool false, .bool false, .bool false, .bool false, .bool false, .bool false, .bool false, .bool false, .bool false, .bool false, .bool false, .bool false, .bool false, .bool false, .bool false, .bool false, .bool false, .bool false, .bool false, .bool false, .bool false, .bool false, .bool false, .bool false, .bool false, .bool false, .bool false, .bool false, .bool false, .bool false, .bool false, .bool false, .bool false, .bool false, .bool false, .bool false, .bool false, .bool false, .bool false, .bool false, .bool false, .bool false, .bool false, .bool false, .bool false, .bool false, .bool false, .bool false, .bool false, .int .i64 0]) 260 320 := Inf.mk (by kernel_rfl)
theorem inf57 : Inf Tryd.prog 57 (.agg #[.int .u8 0, .int .i64 0, .int .i64 0, .slice none 0 0]) 4 48 := Inf.mk (by kernel_rfl)
theorem inf58 : Inf Tryd.prog 58 (.agg #[.int .u8 0, .int .i64 0, .int .i64 0, .slice none 0 0]) 4 48 := Inf.mk (by kernel_rfl)
theorem inf62 : Inf Tryd.prog 62 (.agg #[.int .u16 0, .int .u16 0, .int .u16 0, .int .u16 0, .int .u16 0, .int .u16 0, .int .u16 0, .int .u16 0, .int .u16 0, .int .u16 0, .int .u16 0, .int .u16 0, .int .u16 0, .int .u16 0, .int .u16 0, .int .u16 0]) 16 32 := Inf.mk (by kernel_rfl)
theorem inf63 : Inf Tryd.prog 63 (.agg #[.int .i64 0, .slice none 0 0, .slice none 0 0, .int .u16 0, .int .u16 0, .int .u16 0, .int .u16 0, .int .u16 0, .int .u16 0, .int .u16 0, .int .u16 0, .int .u16 0, .int .u16 0, .int .u16 0, .int .u16 0, .int .u16 0, .int .u16 0, .int .u16 0, .int .u16 0, .int .i64 0]) 20 96 := Inf.mk (by kernel_rfl)
theorem inf64 : Inf Tryd.prog 64 (.agg #[.int .i64 0, .slice none 0 0, .slice none 0 0, .int .u16 0, .int .u16 0, .int .u16 0, .int .u16 0, .int .u16 0, .int .u16 0, .int .u16 0, .int .u16 0, .int .u16 0, .int .u16 0, .int .u16 0, .int .u16 0, .int .u16 0, .int .u16 0, .int .u16 0, .int .u16 0, .int .i64 0]) 20 96 := Inf.mk (by kernel_rfl)
theorem inf83 : Inf Tryd.prog 83 (.agg #[.int .u8 0, .int .u8 0, .int .u8 0, .int .u8 0, .int .u8 0, .int .u8 0, .int .u8 0, .int .u8 0, .int .u8 0, .int .u8 0, .int .u8 0, .int .u8 0, .int .u8 0, .int .u8 0, .int .u8 0, .int .u8 0, .int .u8 0, .int .u8 0, .int .u8 0, .int .u8 0, .int .u8 0, .int .u8 0, .int .u8 0, .int .u8 0, .int .u8 0, .int .u8 0, .int .u8 0, .int .u8 0, .int .u8 0, .int .u8 0, .int .u8 0, .int .u8 0]) 32 32 := Inf.mk (by kernel_rfl)
theorem inf84 : Inf Tryd.prog 84 (.int .u32 0) 1 4 := Inf.mk (by kernel_rfl)
theorem inf85 : Inf Tryd.prog 85 (.int .u64 0) 1 8 := Inf.mk (by kernel_rfl)
theorem inf87 : Inf Tryd.prog 87 (.agg #[.pointer none, .pointer none, .pointer none, .string ⟨#[]⟩]) 4 40 := Inf.mk (by kernel_rfl)
theorem inf88 : Inf Tryd.prog 88 (.agg #[.pointer none, .pointer none, .pointer none, .string ⟨#[]⟩]) 4 40 := Inf.mk (by kernel_rfl)
theorem inf89 : Inf Tryd.prog 89 (.agg #[]) 0 0 := Inf.mk (by kernel_rfl)
theorem inf92 : Inf Tryd.prog 92 (.int .u8 0) 1 1 := Inf.mk (by kernel_rfl)
theorem inf93 : Inf Tryd.prog 93 (.int .u8 0) 1 1 := Inf.mk (by kernel_rfl)
theorem inf95 : Inf Tryd.prog 95 (.pointer none) 1 8 := Inf.mk (by kernel_rfl)
theorem inf96 : Inf Tryd.prog 96 (.int .i32 0) 1 4 := Inf.mk (by kernel_rfl)
theorem inf97 : Inf Tryd.prog 97 (.int .i32 0) 1 4 := Inf.mk (by kernel_rfl)
theorem sc2 : scalarT Tryd.prog 2 = true := by kernel_rfl
theorem ld2 {N : Nat} {ρ : Nat → Value} {w : World} {ty : Nat} {x : Operand} {ad : Addr} {v : Value} (hx : Ev N ρ x (.pointer (some ad))) (hc : w.cell? ad = some v) : Ex Tryd.prog N ρ w (.load 2 x) ty v w := x_load sc2 hx hc
theorem sto2 {N : Nat} {ρ : Nat → Value} {H : Hp} {w : World} {L : List Res} {g T ty i : Nat} {x y : Operand} {cs cs' : List Value} {v : Value} (h : St H w (obj g T cs :: L)) (hx : Ev N ρ x (.pointer (some ⟨g, i, none⟩))) (hy : Ev N ρ y v) (hsz : v.cells.size = 1) (hl : i + 1 ≤ cs.length) (h1 : ∀ u ∈ v.cells.toList, u.oneCell' = true) (hsp : splice cs i v.cells.toList = cs') : ∃ w', Ex0 Tryd.prog N ρ w (.store 2 x y) ty w' ∧ St H w' (obj g T cs' :: L) := by
  obtain ⟨i0, e1, _, e3, _⟩ := inf2
  exact m_store e1 h hx hy (by rw [e3]; exact hsz) (by rw [e3]; exact hl) h1 hsp
theorem stor2 {N : Nat} {ρ : Nat → Value} {H : Hp} {w : World} {L : List Res} {g e size n cap ty i : Nat} {x y : Operand} {xs xs' : List Value} {v u : Value} (h : St H w (row e size v n xs :: L)) (hv : v = .slice (some ⟨g, 0, none⟩) n cap) (hx : Ev N ρ x (.pointer (some ⟨g, i, none⟩))) (hy : Ev N ρ y u) (hsz : u.cells.size = 1) (hl : i + 1 ≤ xs.length) (h1 : ∀ u' ∈ u.cells.toList, u'.oneCell' = true) (hsp : splice xs i u.cells.toList = xs') : ∃ w', Ex0 Tryd.prog N ρ w (.store 2 x y) ty w' ∧ St H w' (row e size v n xs' :: L) := by
  obtain ⟨i0, e1, _, e3, _⟩ := inf2
  exact m_storeRow e1 h hv hx hy (by rw [e3]; exact hsz) (by rw [e3]; exact hl) h1 hsp
theorem al2 {N : Nat} {ρ : Nat → Value} {H : Hp} {w : World} {L : List Res} {ty : Nat} {cs : List Value} (h : St H w L) (hv : (.int .i64 0 : Value).cells = cs.toArray) : ∃ v' w', Ex Tryd.prog N ρ w (.alloc 2) ty v' w' ∧ ∃ g, v' = .pointer (some ⟨g, 0, none⟩) ∧ St H w' (obj g 2 cs :: L) := by
  obtain ⟨i0, e1, e2, _, _⟩ := inf2
  exact m_alloc e1 e2 h hv
theorem sc3 : scalarT Tryd.prog 3 = true := by kernel_rfl
theorem ld3 {N : Nat} {ρ : Nat → Value} {w : World} {ty : Nat} {x : Operand} {ad : Addr} {v : Value} (hx : Ev N ρ x (.pointer (some ad))) (hc : w.cell? ad = some v) : Ex Tryd.prog N ρ w (.load 3 x) ty v w := x_load sc3 hx hc
theorem sto3 {N : Nat} {ρ : Nat → Value} {H : Hp} {w : World} {L : List Res} {g T ty i : Nat} {x y : Operand} {cs cs' : List Value} {v : Value} (h : St H w (obj g T cs :: L)) (hx : Ev N ρ x (.pointer (some ⟨g, i, none⟩))) (hy : Ev N ρ y v) (hsz : v.cells.size = 1) (hl : i + 1 ≤ cs.length) (h1 : ∀ u ∈ v.cells.toList, u.oneCell' = true) (hsp : splice cs i v.cells.toList = cs') : ∃ w', Ex0 Tryd.prog N ρ w (.store 3 x y) ty w' ∧ St H w' (obj g T cs' :: L) := by
  obtain ⟨i0, e1, _, e3, _⟩ := inf3
  exact m_store e1 h hx hy (by rw [e3]; exact hsz) (by rw [e3]; exact hl) h1 hsp
theorem stor3 {N : Nat} {ρ : Nat → Value} {H : Hp} {w : World} {L : List Res} {g e size n cap ty i : Nat} {x y : Operand} {xs xs' : List Value} {v u : Value} (h : St H w (row e size v n xs :: L)) (hv : v = .slice (some ⟨g, 0, none⟩) n cap) (hx : Ev N ρ x (.pointer (some ⟨g, i, none⟩))) (hy : Ev N ρ y u) (hsz : u.cells.size = 1) (hl : i + 1 ≤ xs.length) (h1 : ∀ u' ∈ u.cells.toList, u'.oneCell' = true) (hsp : splice xs i u.cells.toList = xs') : ∃ w', Ex0 Tryd.prog N ρ w (.store 3 x y) ty w' ∧ St H w' (row e size v n xs' :: L) := by
  obtain ⟨i0, e1, _, e3, _⟩ := inf3
  exact m_storeRow e1 h hv hx hy (by rw [e3]; exact hsz) (by rw [e3]; exact hl) h1 hsp
theorem al3 {N : Nat} {ρ : Nat → Value} {H : Hp} {w : World} {L : List Res} {ty : Nat} {cs : List Value} (h : St H w L) (hv : (.int .i64 0 : Value).cells = cs.toArray) : ∃ v' w', Ex Tryd.prog N ρ w (.alloc 3) ty v' w' ∧ ∃ g, v' = .pointer (some ⟨g, 0, none⟩) ∧ St H w' (obj g 3 cs :: L) := by
  obtain ⟨i0, e1, e2, _, _⟩ := inf3
  exact m_alloc e1 e2 h hv
theorem sc4 : scalarT Tryd.prog 4 = true := by kernel_rfl
theorem ld4 {N : Nat} {ρ : Nat → Value} {w : World} {ty : Nat} {x : Operand} {ad : Addr} {v : Value} (hx : Ev N ρ x (.pointer (some ad))) (hc : w.cell? ad = some v) : Ex Tryd.prog N ρ w (.load 4 x) ty v w := x_load sc4 hx hc
theorem sto4 {N : Nat} {ρ : Nat → Value} {H : Hp} {w : World} {L : List Res} {g T ty i : Nat} {x y : Operand} {cs cs' : List Value} {v : Value} (h : St H w (obj g T cs :: L)) (hx : Ev N ρ x (.pointer (some ⟨g, i, none⟩))) (hy : Ev N ρ y v) (hsz : v.cells.size = 1) (hl : i + 1 ≤ cs.length) (h1 : ∀ u ∈ v.cells.toList, u.oneCell' = true) (hsp : splice cs i v.cells.toList = cs') : ∃ w', Ex0 Tryd.prog N ρ w (.store 4 x y) ty w' ∧ St H w' (obj g T cs' :: L) := by
  obtain ⟨i0, e1, _, e3, _⟩ := inf4
  exact m_store e1 h hx hy (by rw [e3]; exact hsz) (by rw [e3]; exact hl) h1 hsp
theorem stor4 {N : Nat} {ρ : Nat → Value} {H : Hp} {w : World} {L : List Res} {g e size n cap ty i : Nat} {x y : Operand} {xs xs' : List Value} {v u : Value} (h : St H w (row e size v n xs :: L)) (hv : v = .slice (some ⟨g, 0, none⟩) n cap) (hx : Ev N ρ x (.pointer (some ⟨g, i, none⟩))) (hy : Ev N ρ y u) (hsz : u.cells.size = 1) (hl : i + 1 ≤ xs.length) (h1 : ∀ u' ∈ u.cells.toList, u'.oneCell' = true) (hsp : splice xs i u.cells.toList = xs') : ∃ w', Ex0 Tryd.prog N ρ w (.store 4 x y) ty w' ∧ St H w' (row e size v n xs' :: L) := by
  obtain ⟨i0, e1, _, e3, _⟩ := inf4
  exact m_storeRow e1 h hv hx hy (by rw [e3]; exact hsz) (by rw [e3]; exact hl) h1 hsp
theorem al4 {N : Nat} {ρ : Nat → Value} {H : Hp} {w : World} {L : List Res} {ty : Nat} {cs : List Value} (h : St H w L) (hv : (.bool false : Value).cells = cs.toArray) : ∃ v' w', Ex Tryd.prog N ρ w (.alloc 4) ty v' w' ∧ ∃ g, v' = .pointer (some ⟨g, 0, none⟩) ∧ St H w' (obj g 4 cs :: L) := by
  obtain ⟨i0, e1, e2, _, _⟩ := inf4
  exact m_alloc e1 e2 h hv
theorem sc5 : scalarT Tryd.prog 5 = true := by kernel_rfl
theorem ld5 {N : Nat} {ρ : Nat → Value} {w : World} {ty : Nat} {x : Operand} {ad : Addr} {v : Value} (hx : Ev N ρ x (.pointer (some ad))) (hc : w.cell? ad = some v) : Ex Tryd.prog N ρ w (.load 5 x) ty v w := x_load sc5 hx hc
theorem sto5 {N : Nat} {ρ : Nat → Value} {H : Hp} {w : World} {L : List Res} {g T ty i : Nat} {x y : Operand} {cs cs' : List Value} {v : Value} (h : St H w (obj g T cs :: L)) (hx : Ev N ρ x (.pointer (some ⟨g, i, none⟩))) (hy : Ev N ρ y v) (hsz : v.cells.size = 1) (hl : i + 1 ≤ cs.length) (h1 : ∀ u ∈ v.cells.toList, u.oneCell' = true) (hsp : splice cs i v.cells.toList = cs') : ∃ w', Ex0 Tryd.prog N ρ w (.store 5 x y) ty w' ∧ St H w' (obj g T cs' :: L) := by
  obtain ⟨i0, e1, _, e3, _⟩ := inf5
  exact m_store e1 h hx hy (by rw [e3]; exact hsz) (by rw [e3]; exact hl) h1 hsp
theorem stor5 {N : Nat} {ρ : Nat → Value} {H : Hp} {w : World} {L : List Res} {g e size n cap ty i : Nat} {x y : Operand} {xs xs' : List Value} {v u : Value} (h : St H w (row e size v n xs :: L)) (hv : v = .slice (some ⟨g, 0, none⟩) n cap) (hx : Ev N ρ x (.pointer (some ⟨g, i, none⟩))) (hy : Ev N ρ y u) (hsz : u.cells.size = 1) (hl : i + 1 ≤ xs.length) (h1 : ∀ u' ∈ u.cells.toList, u'.oneCell' = true) (hsp : splice xs i u.cells.toList = xs') : ∃ w', Ex0 Tryd.prog N ρ w (.store 5 x y) ty w' ∧ St H w' (row e size v n xs' :: L) := by
  obtain ⟨i0, e1, _, e3, _⟩ := inf5
  exact m_storeRow e1 h hv hx hy (by rw [e3]; exact hsz) (by rw [e3]; exact hl) h1 hsp
theorem al5 {N : Nat} {ρ : Nat → Value} {H : Hp} {w : World} {L : List Res} {ty : Nat} {cs : List Value} (h : St H w L) (hv : (.int .u8 0 : Value).cells = cs.toArray) : ∃ v' w', Ex Tryd.prog N ρ w (.alloc 5) ty v' w' ∧ ∃ g, v' = .pointer (some ⟨g, 0, none⟩) ∧ St H w' (obj g 5 cs :: L) := by
  obtain ⟨i0, e1, e2, _, _⟩ := inf5
  exact m_alloc e1 e2 h hv
theorem sc6 : scalarT Tryd.prog 6 = true := by kernel_rfl
theorem ld6 {N : Nat} {ρ : Nat → Value} {w : World} {ty : Nat} {x : Operand} {ad : Addr} {v : Value} (hx : Ev N ρ x (.pointer (some ad))) (hc : w.cell? ad = some v) : Ex Tryd.prog N ρ w (.load 6 x) ty v w := x_load sc6 hx hc
theorem sto6 {N : Nat} {ρ : Nat → Value} {H : Hp} {w : World} {L : List Res} {g T ty i : Nat} {x y : Operand} {cs cs' : List Value} {v : Value} (h : St H w (obj g T cs :: L)) (hx : Ev N ρ x (.pointer (some ⟨g, i, none⟩))) (hy : Ev N ρ y v) (hsz : v.cells.size = 1) (hl : i + 1 ≤ cs.length) (h1 : ∀ u ∈ v.cells.toList, u.oneCell' = true) (hsp : splice cs i v.cells.toList = cs') : ∃ w', Ex0 Tryd.prog N ρ w (.store 6 x y) ty w' ∧ St H w' (obj g T cs' :: L) := by
  obtain ⟨i0, e1, _, e3, _⟩ := inf6
  exact m_store e1 h hx hy (by rw [e3]; exact hsz) (by rw [e3]; exact hl) h1 hsp
theorem stor6 {N : Nat} {ρ : Nat → Value} {H : Hp} {w : World} {L : List Res} {g e size n cap ty i : Nat} {x y : Operand} {xs xs' : List Value} {v u : Value} (h : St H w (row e size v n xs :: L)) (hv : v = .slice (some ⟨g, 0, none⟩) n cap) (hx : Ev N ρ x (.pointer (some ⟨g, i, none⟩))) (hy : Ev N ρ y u) (hsz : u.cells.size = 1) (hl : i + 1 ≤ xs.length) (h1 : ∀ u' ∈ u.cells.toList, u'.oneCell' = true) (hsp : splice xs i u.cells.toList = xs') : ∃ w', Ex0 Tryd.prog N ρ w (.store 6 x y) ty w' ∧ St H w' (row e size v n xs' :: L) := by
  obtain ⟨i0, e1, _, e3, _⟩ := inf6
  exact m_storeRow e1 h hv hx hy (by rw [e3]; exact hsz) (by rw [e3]; exact hl) h1 hsp
theorem al6 {N : Nat} {ρ : Nat → Value} {H : Hp} {w : World} {L : List Res} {ty : Nat} {cs : List Value} (h : St H w L) (hv : (.int .u8 0 : Value).cells = cs.toArray) : ∃ v' w', Ex Tryd.prog N ρ w (.alloc 6) ty v' w' ∧ ∃ g, v' = .pointer (some ⟨g, 0, none⟩) ∧ St H w' (obj g 6 cs :: L) := by
  obtain ⟨i0, e1, e2, _, _⟩ := inf6
  exact m_alloc e1 e2 h hv
theorem ag7 : aggT Tryd.prog 7 = true := by kernel_rfl
theorem ld7 {N : Nat} {ρ : Nat → Value} {w : World} {ty : Nat} {x : Operand} {ad : Addr} {cs : List Value} (hx : Ev N ρ x (.pointer (some ad))) (hc : At w ad cs) (hl : cs.length = 4) : Ex Tryd.prog N ρ w (.load 7 x) ty (.agg cs.toArray) w := by
  obtain ⟨i0, h1, _, h3, _⟩ := inf7
  exact x_loadA ag7 h1 hx hc (by rw [h3]; exact hl)
theorem lv7 {w : World} {ad : Addr} {cs : List Value} (hc : At w ad cs) (hl : cs.length = 4) : (loadVar 7 ad).run Tryd.prog w = .ok (.agg cs.toArray) w := by
  obtain ⟨i0, h1, _, h3, _⟩ := inf7
  exact run_loadVar_t ag7 h1 hc (by rw [h3]; exact hl)
theorem sto7 {N : Nat} {ρ : Nat → Value} {H : Hp} {w : World} {L : List Res} {g T ty i : Nat} {x y : Operand} {cs cs' : List Value} {v : Value} (h : St H w (obj g T cs :: L)) (hx : Ev N ρ x (.pointer (some ⟨g, i, none⟩))) (hy : Ev N ρ y v) (hsz : v.cells.size = 4) (hl : i + 4 ≤ cs.length) (h1 : ∀ u ∈ v.cells.toList, u.oneCell' = true) (hsp : splice cs i v.cells.toList = cs') : ∃ w', Ex0 Tryd.prog N ρ w (.store 7 x y) ty w' ∧ St H w' (obj g T cs' :: L) := by
  obtain ⟨i0, e1, _, e3, _⟩ := inf7
  exact m_store e1 h hx hy (by rw [e3]; exact hsz) (by rw [e3]; exact hl) h1 hsp
theorem stor7 {N : Nat} {ρ : Nat → Value} {H : Hp} {w : World} {L : List Res} {g e size n cap ty i : Nat} {x y : Operand} {xs xs' : List Value} {v u : Value} (h : St H w (row e size v n xs :: L)) (hv : v = .slice (some ⟨g, 0, none⟩) n cap) (hx : Ev N ρ x (.pointer (some ⟨g, i, none⟩))) (hy : Ev N ρ y u) (hsz : u.cells.size = 4) (hl : i + 4 ≤ xs.length) (h1 : ∀ u' ∈ u.cells.toList, u'.oneCell' = true) (hsp : splice xs i u.cells.toList = xs') : ∃ w', Ex0 Tryd.prog N ρ w (.store 7 x y) ty w' ∧ St H w' (row e size v n xs' :: L) := by
  obtain ⟨i0, e1, _, e3, _⟩ := inf7
  exact m_storeRow e1 h hv hx hy (by rw [e3]; exact hsz) (by rw [e3]; exact hl) h1 hsp
theorem al7 {N : Nat} {ρ : Nat → Value} {H : Hp} {w : World} {L : List Res} {ty : Nat} {cs : List Value} (h : St H w L) (hv : (.agg #[.int .i64 0, .int .i64 0, .bool false, .int .u8 0] : Value).cells = cs.toArray) : ∃ v' w', Ex Tryd.prog N ρ w (.alloc 7) ty v' w' ∧ ∃ g, v' = .pointer (some ⟨g, 0, none⟩) ∧ St H w' (obj g 7 cs :: L) := by
  obtain ⟨i0, e1, e2, _, _⟩ := inf7
  exact m_alloc e1 e2 h hv
theorem ag8 : aggT Tryd.prog 8 = true := by kernel_rfl
theorem ld8 {N : Nat} {ρ : Nat → Value} {w : World} {ty : Nat} {x : Operand} {ad : Addr} {cs : List Value} (hx : Ev N ρ x (.pointer (some ad))) (hc : At w ad cs) (hl : cs.length = 4) : Ex Tryd.prog N ρ w (.load 8 x) ty (.agg cs.toArray) w := by
  obtain ⟨i0, h1, _, h3, _⟩ := inf8
  exact x_loadA ag8 h1 hx hc (by rw [h3]; exact hl)
theorem lv8 {w : World} {ad : Addr} {cs : List Value} (hc : At w ad cs) (hl : cs.length = 4) : (loadVar 8 ad).run Tryd.prog w = .ok (.agg cs.toArray) w := by
  obtain ⟨i0, h1, _, h3, _⟩ := inf8
  exact run_loadVar_t ag8 h1 hc (by rw [h3]; exact hl)
theorem sto8 {N : Nat} {ρ : Nat → Value} {H : Hp} {w : World} {L : List Res} {g T ty i : Nat} {x y : Operand} {cs cs' : List Value} {v : Value} (h : St H w (obj g T cs :: L)) (hx : Ev N ρ x (.pointer (some ⟨g, i, none⟩))) (hy : Ev N ρ y v) (hsz : v.cells.size = 4) (hl : i + 4 ≤ cs.length) (h1 : ∀ u ∈ v.cells.toList, u.oneCell' = true) (hsp : splice cs i v.cells.toList = cs') : ∃ w', Ex0 Tryd.prog N ρ w (.store 8 x y) ty w' ∧ St H w' (obj g T cs' :: L) := by
  obtain ⟨i0, e1, _, e3, _⟩ := inf8
  exact m_store e1 h hx hy (by rw [e3]; exact hsz) (by rw [e3]; exact hl) h1 hsp
theorem stor8 {N : Nat} {ρ : Nat → Value} {H : Hp} {w : World} {L : List Res} {g e size n cap ty i : Nat} {x y : Operand} {xs xs' : List Value} {v u : Value} (h : St H w (row e size v n xs :: L)) (hv : v = .slice (some ⟨g, 0, none⟩) n cap) (hx : Ev N ρ x (.pointer (some ⟨g, i, none⟩))) (hy : Ev N ρ y u) (hsz : u.cells.size = 4) (hl : i + 4 ≤ xs.length) (h1 : ∀ u' ∈ u.cells.toList, u'.oneCell' = true) (hsp : splice xs i u.cells.toList = xs') : ∃ w', Ex0 Tryd.prog N ρ w (.store 8 x y) ty w' ∧ St H w' (row e size v n xs' :: L) := by
  obtain ⟨i0, e1, _, e3, _⟩ := inf8
  exact m_storeRow e1 h hv hx hy (by rw [e3]; exact hsz) (by rw [e3]; exact hl) h1 hsp
theorem al8 {N : Nat} {ρ : Nat → Value} {H : Hp} {w : World} {L : List Res} {ty : Nat} {cs : List Value} (h : St H w L) (hv : (.agg #[.int .i64 0, .int .i64 0, .bool false, .int .u8 0] : Value).cells = cs.toArray) : ∃ v' w', Ex Tryd.prog N ρ w (.alloc 8) ty v' w' ∧ ∃ g, v' = .pointer (some ⟨g, 0, none⟩) ∧ St H w' (obj g 8 cs :: L) := by
  obtain ⟨i0, e1, e2, _, _⟩ := inf8
  exact m_alloc e1 e2 h hv
theorem sc9 : scalarT Tryd.prog 9 = true := by kernel_rfl
theorem ld9 {N : Nat} {ρ : Nat → Value} {w : World} {ty : Nat} {x : Operand} {ad : Addr} {v : Value} (hx : Ev N ρ x (.pointer (some ad))) (hc : w.cell? ad = some v) : Ex Tryd.prog N ρ w (.load 9 x) ty v w := x_load sc9 hx hc
theorem sto9 {N : Nat} {ρ : Nat → Value} {H : Hp} {w : World} {L : List Res} {g T ty i : Nat} {x y : Operand} {cs cs' : List Value} {v : Value} (h : St H w (obj g T cs :: L)) (hx : Ev N ρ x (.pointer (some ⟨g, i, none⟩))) (hy : Ev N ρ y v) (hsz : v.cells.size = 1) (hl : i + 1 ≤ cs.length) (h1 : ∀ u ∈ v.cells.toList, u.oneCell' = true) (hsp : splice cs i v.cells.toList = cs') : ∃ w', Ex0 Tryd.prog N ρ w (.store 9 x y) ty w' ∧ St H w' (obj g T cs' :: L) := by
  obtain ⟨i0, e1, _, e3, _⟩ := inf9
  exact m_store e1 h hx hy (by rw [e3]; exact hsz) (by rw [e3]; exact hl) h1 hsp
theorem stor9 {N : Nat} {ρ : Nat → Value} {H : Hp} {w : World} {L : List Res} {g e size n cap ty i : Nat} {x y : Operand} {xs xs' : List Value} {v u : Value} (h : St H w (row e size v n xs :: L)) (hv : v = .slice (some ⟨g, 0, none⟩) n cap) (hx : Ev N ρ x (.pointer (some ⟨g, i, none⟩))) (hy : Ev N ρ y u) (hsz : u.cells.size = 1) (hl : i + 1 ≤ xs.length) (h1 : ∀ u' ∈ u.cells.toList, u'.oneCell' = true) (hsp : splice xs i u.cells.toList = xs') : ∃ w', Ex0 Tryd.prog N ρ w (.store 9 x y) ty w' ∧ St H w' (row e size v n xs' :: L) := by
  obtain ⟨i0, e1, _, e3, _⟩ := inf9
  exact m_storeRow e1 h hv hx hy (by rw [e3]; exact hsz) (by rw [e3]; exact hl) h1 hsp
theorem al9 {N : Nat} {ρ : Nat → Value} {H : Hp} {w : World} {L : List Res} {ty : Nat} {cs : List Value} (h : St H w L) (hv : (.string ⟨#[]⟩ : Value).cells = cs.toArray) : ∃ v' w', Ex Tryd.prog N ρ w (.alloc 9) ty v' w' ∧ ∃ g, v' = .pointer (some ⟨g, 0, none⟩) ∧ St H w' (obj g 9 cs :: L) := by
  obtain ⟨i0, e1, e2, _, _⟩ := inf9
  exact m_alloc e1 e2 h hv
theorem sc10 : scalarT Tryd.prog 10 = true := by kernel_rfl
theorem ld10 {N : Nat} {ρ : Nat → Value} {w : World} {ty : Nat} {x : Operand} {ad : Addr} {v : Value} (hx : Ev N ρ x (.pointer (some ad))) (hc : w.cell? ad = some v) : Ex Tryd.prog N ρ w (.load 10 x) ty v w := x_load sc10 hx hc
theorem sto10 {N : Nat} {ρ : Nat → Value} {H : Hp} {w : World} {L : List Res} {g T ty i : Nat} {x y : Operand} {cs cs' : List Value} {v : Value} (h : St H w (obj g T cs :: L)) (hx : Ev N ρ x (.pointer (some ⟨g, i, none⟩))) (hy : Ev N ρ y v) (hsz : v.cells.size = 1) (hl : i + 1 ≤ cs.length) (h1 : ∀ u ∈ v.cells.toList, u.oneCell' = true) (hsp : splice cs i v.cells.toList = cs') : ∃ w', Ex0 Tryd.prog N ρ w (.store 10 x y) ty w' ∧ St H w' (obj g T cs' :: L) := by
  obtain ⟨i0, e1, _, e3, _⟩ := inf10
  exact m_store e1 h hx hy (by rw [e3]; exact hsz) (by rw [e3]; exact hl) h1 hsp
theorem stor10 {N : Nat} {ρ : Nat → Value} {H : Hp} {w : World} {L : List Res} {g e size n cap ty i : Nat} {x y : Operand} {xs xs' : List Value} {v u : Value} (h : St H w (row e size v n xs :: L)) (hv : v = .slice (some ⟨g, 0, none⟩) n cap) (hx : Ev N ρ x (.pointer (some ⟨g, i, none⟩))) (hy : Ev N ρ y u) (hsz : u.cells.size = 1) (hl : i + 1 ≤ xs.length) (h1 : ∀ u' ∈ u.cells.toList, u'.oneCell' = true) (hsp : splice xs i u.cells.toList = xs') : ∃ w', Ex0 Tryd.prog N ρ w (.store 10 x y) ty w' ∧ St H w' (row e size v n xs' :: L) := by
  obtain ⟨i0, e1, _, e3, _⟩ := inf10
  exact m_storeRow e1 h hv hx hy (by rw [e3]; exact hsz) (by rw [e3]; exact hl) h1 hsp
theorem al10 {N : Nat} {ρ : Nat → Value} {H : Hp} {w : World} {L : List Res} {ty : Nat} {cs : List Value} (h : St H w L) (hv : (.string ⟨#[]⟩ : Value).cells = cs.toArray) : ∃ v' w', Ex Tryd.prog N ρ w (.alloc 10) ty v' w' ∧ ∃ g, v' = .pointer (some ⟨g, 0, none⟩) ∧ St H w' (obj g 10 cs :: L) := by
  obtain ⟨i0, e1, e2, _, _⟩ := inf10
  exact m_alloc e1 e2 h hv
theorem sc11 : scalarT Tryd.prog 11 = true := by kernel_rfl
theorem ld11 {N : Nat} {ρ : Nat → Value} {w : World} {ty : Nat} {x : Operand} {ad : Addr} {v : Value} (hx : Ev N ρ x (.pointer (some ad))) (hc : w.cell? ad = some v) : Ex Tryd.prog N ρ w (.load 11 x) ty v w := x_load sc11 hx hc
theorem sto11 {N : Nat} {ρ : Nat → Value} {H : Hp} {w : World} {L : List Res} {g T ty i : Nat} {x y : Operand} {cs cs' : List Value} {v : Value} (h : St H w (obj g T cs :: L)) (hx : Ev N ρ x (.pointer (some ⟨g, i, none⟩))) (hy : Ev N ρ y v) (hsz : v.cells.size = 1) (hl : i + 1 ≤ cs.length) (h1 : ∀ u ∈ v.cells.toList, u.oneCell' = true) (hsp : splice cs i v.cells.toList = cs') : ∃ w', Ex0 Tryd.prog N ρ w (.store 11 x y) ty w' ∧ St H w' (obj g T cs' :: L) := by
  obtain ⟨i0, e1, _, e3, _⟩ := inf11
  exact m_store e1 h hx hy (by rw [e3]; exact hsz) (by rw [e3]; exact hl) h1 hsp
theorem stor11 {N : Nat} {ρ : Nat → Value} {H : Hp} {w : World} {L : List Res} {g e size n cap ty i : Nat} {x y : Operand} {xs xs' : List Value} {v u : Value} (h : St H w (row e size v n xs :: L)) (hv : v = .slice (some ⟨g, 0, none⟩) n cap) (hx : Ev N ρ x (.pointer (some ⟨g, i, none⟩))) (hy : Ev N ρ y u) (hsz : u.cells.size = 1) (hl : i + 1 ≤ xs.length) (h1 : ∀ u' ∈ u.cells.toList, u'.oneCell' = true) (hsp : splice xs i u.cells.toList = xs') : ∃ w', Ex0 Tryd.prog N ρ w (.store 11 x y) ty w' ∧ St H w' (row e size v n xs' :: L) := by
  obtain ⟨i0, e1, _, e3, _⟩ := inf11
  exact m_storeRow e1 h hv hx hy (by rw [e3]; exact hsz) (by rw [e3]; exact hl) h1 hsp
theorem al11 {N : Nat} {ρ : Nat → Value} {H : Hp} {w : World} {L : List Res} {ty : Nat} {cs : List Value} (h : St H w L) (hv : (.string ⟨#[]⟩ : Value).cells = cs.toArray) : ∃ v' w', Ex Tryd.prog N ρ w (.alloc 11) ty v' w' ∧ ∃ g, v' = .pointer (some ⟨g, 0, none⟩) ∧ St H w' (obj g 11 cs :: L) := by
  obtain ⟨i0, e1, e2, _, _⟩ := inf11
  exact m_alloc e1 e2 h hv
theorem sc12 : scalarT Tryd.prog 12 = true := by kernel_rfl
theorem ld12 {N : Nat} {ρ : Nat → Value} {w : World} {ty : Nat} {x : Operand} {ad : Addr} {v : Value} (hx : Ev N ρ x (.pointer (some ad))) (hc : w.cell? ad = some v) : Ex Tryd.prog N ρ w (.load 12 x) ty v w := x_load sc12 hx hc
theorem sto12 {N : Nat} {ρ : Nat → Value} {H : Hp} {w : World} {L : List Res} {g T ty i : Nat} {x y : Operand} {cs cs' : List Value} {v : Value} (h : St H w (obj g T cs :: L)) (hx : Ev N ρ x (.pointer (some ⟨g, i, none⟩))) (hy : Ev N ρ y v) (hsz : v.cells.size = 1) (hl : i + 1 ≤ cs.length) (h1 : ∀ u ∈ v.cells.toList, u.oneCell' = true) (hsp : splice cs i v.cells.toList = cs') : ∃ w', Ex0 Tryd.prog N ρ w (.store 12 x y) ty w' ∧ St H w' (obj g T cs' :: L) := by
  obtain ⟨i0, e1, _, e3, _⟩ := inf12
  exact m_store e1 h hx hy (by rw [e3]; exact hsz) (by rw [e3]; exact hl) h1 hsp
theorem stor12 {N : Nat} {ρ : Nat → Value} {H : Hp} {w : World} {L : List Res} {g e size n cap ty i : Nat} {x y : Operand} {xs xs' : List Value} {v u : Value} (h : St H w (row e size v n xs :: L)) (hv : v = .slice (some ⟨g, 0, none⟩) n cap) (hx : Ev N ρ x (.pointer (some ⟨g, i, none⟩))) (hy : Ev N ρ y u) (hsz : u.cells.size = 1) (hl : i + 1 ≤ xs.length) (h1 : ∀ u' ∈ u.cells.toList, u'.oneCell' = true) (hsp : splice xs i u.cells.toList = xs') : ∃ w', Ex0 Tryd.prog N ρ w (.store 12 x y) ty w' ∧ St H w' (row e size v n xs' :: L) := by
  obtain ⟨i0, e1, _, e3, _⟩ := inf12
  exact m_storeRow e1 h hv hx hy (by rw [e3]; exact hsz) (by rw [e3]; exact hl) h1 hsp
theorem al12 {N : Nat} {ρ : Nat → Value} {H : Hp} {w : World} {L : List Res} {ty : Nat} {cs : List Value} (h : St H w L) (hv : (.int .u64 0 : Value).cells = cs.toArray) : ∃ v' w', Ex Tryd.prog N ρ w (.alloc 12) ty v' w' ∧ ∃ g, v' = .pointer (some ⟨g, 0, none⟩) ∧ St H w' (obj g 12 cs :: L) := by
  obtain ⟨i0, e1, e2, _, _⟩ := inf12
  exact m_alloc e1 e2 h hv
theorem ag13 : aggT Tryd.prog 13 = true := by kernel_rfl
theorem ld13 {N : Nat} {ρ : Nat → Value} {w : World} {ty : Nat} {x : Operand} {ad : Addr} {cs : List Value} (hx : Ev N ρ x (.pointer (some ad))) (hc : At w ad cs) (hl : cs.length = 2) : Ex Tryd.prog N ρ w (.load 13 x) ty (.agg cs.toArray) w := by
  obtain ⟨i0, h1, _, h3, _⟩ := inf13
  exact x_loadA ag13 h1 hx hc (by rw [h3]; exact hl)
theorem lv13 {w : World} {ad : Addr} {cs : List Value} (hc : At w ad cs) (hl : cs.length = 2) : (loadVar 13 ad).run Tryd.prog w = .ok (.agg cs.toArray) w := by
  obtain ⟨i0, h1, _, h3, _⟩ := inf13
  exact run_loadVar_t ag13 h1 hc (by rw [h3]; exact hl)
theorem sto13 {N : Nat} {ρ : Nat → Value} {H : Hp} {w : World} {L : List Res} {g T ty i : Nat} {x y : Operand} {cs cs' : List Value} {v : Value} (h : St H w (obj g T cs :: L)) (hx : Ev N ρ x (.pointer (some ⟨g, i, none⟩))) (hy : Ev N ρ y v) (hsz : v.cells.size = 2) (hl : i + 2 ≤ cs.length) (h1 : ∀ u ∈ v.cells.toList, u.oneCell' = true) (hsp : splice cs i v.cells.toList = cs') : ∃ w', Ex0 Tryd.prog N ρ w (.store 13 x y) ty w' ∧ St H w' (obj g T cs' :: L) := by
  obtain ⟨i0, e1, _, e3, _⟩ := inf13
  exact m_store e1 h hx hy (by rw [e3]; exact hsz) (by rw [e3]; exact hl) h1 hsp
theorem stor13 {N : Nat} {ρ : Nat → Value} {H : Hp} {w : World} {L : List Res} {g e size n cap ty i : Nat} {x y : Operand} {xs xs' : List Value} {v u : Value} (h : St H w (row e size v n xs :: L)) (hv : v = .slice (some ⟨g, 0, none⟩) n cap) (hx : Ev N ρ x (.pointer (some ⟨g, i, none⟩))) (hy : Ev N ρ y u) (hsz : u.cells.size = 2) (hl : i + 2 ≤ xs.length) (h1 : ∀ u' ∈ u.cells.toList, u'.oneCell' = true) (hsp : splice xs i u.cells.toList = xs') : ∃ w', Ex0 Tryd.prog N ρ w (.store 13 x y) ty w' ∧ St H w' (row e size v n xs' :: L) := by
  obtain ⟨i0, e1, _, e3, _⟩ := inf13
  exact m_storeRow e1 h hv hx hy (by rw [e3]; exact hsz) (by rw [e3]; exact hl) h1 hsp
theorem al13 {N : Nat} {ρ : Nat → Value} {H : Hp} {w : World} {L : List Res} {ty : Nat} {cs : List Value} (h : St H w L) (hv : (.agg #[.string ⟨#[]⟩, .int .u64 0] : Value).cells = cs.toArray) : ∃ v' w', Ex Tryd.prog N ρ w (.alloc 13) ty v' w' ∧ ∃ g, v' = .pointer (some ⟨g, 0, none⟩) ∧ St H w' (obj g 13 cs :: L) := by
  obtain ⟨i0, e1, e2, _, _⟩ := inf13
  exact m_alloc e1 e2 h hv
theorem ag14 : aggT Tryd.prog 14 = true := by kernel_rfl
theorem ld14 {N : Nat} {ρ : Nat → Value} {w : World} {ty : Nat} {x : Operand} {ad : Addr} {cs : List Value} (hx : Ev N ρ x (.pointer (some ad))) (hc : At w ad cs) (hl : cs.length = 2) : Ex Tryd.prog N ρ w (.load 14 x) ty (.agg cs.toArray) w := by
  obtain ⟨i0, h1, _, h3, _⟩ := inf14
  exact x_loadA ag14 h1 hx hc (by rw [h3]; exact hl)
theorem lv14 {w : World} {ad : Addr} {cs : List Value} (hc : At w ad cs) (hl : cs.length = 2) : (loadVar 14 ad).run Tryd.prog w = .ok (.agg cs.toArray) w := by
  obtain ⟨i0, h1, _, h3, _⟩ := inf14
  exact run_loadVar_t ag14 h1 hc (by rw [h3]; exact hl)
theorem sto14 {N : Nat} {ρ : Nat → Value} {H : Hp} {w : World} {L : List Res} {g T ty i : Nat} {x y : Operand} {cs cs' : List Value} {v : Value} (h : St H w (obj g T cs :: L)) (hx : Ev N ρ x (.pointer (some ⟨g, i, none⟩))) (hy : Ev N ρ y v) (hsz : v.cells.size = 2) (hl : i + 2 ≤ cs.length) (h1 : ∀ u ∈ v.cells.toList, u.oneCell' = true) (hsp : splice cs i v.cells.toList = cs') : ∃ w', Ex0 Tryd.prog N ρ w (.store 14 x y) ty w' ∧ St H w' (obj g T cs' :: L) := by
  obtain ⟨i0, e1, _, e3, _⟩ := inf14
  exact m_store e1 h hx hy (by rw [e3]; exact hsz) (by rw [e3]; exact hl) h1 hsp
theorem stor14 {N : Nat} {ρ : Nat → Value} {H : Hp} {w : World} {L : List Res} {g e size n cap ty i : Nat} {x y : Operand} {xs xs' : List Value} {v u : Value} (h : St H w (row e size v n xs :: L)) (hv : v = .slice (some ⟨g, 0, none⟩) n cap) (hx : Ev N ρ x (.pointer (some ⟨g, i, none⟩))) (hy : Ev N ρ y u) (hsz : u.cells.size = 2) (hl : i + 2 ≤ xs.length) (h1 : ∀ u' ∈ u.cells.toList, u'.oneCell' = true) (hsp : splice xs i u.cells.toList = xs') : ∃ w', Ex0 Tryd.prog N ρ w (.store 14 x y) ty w' ∧ St H w' (row e size v n xs' :: L) := by
  obtain ⟨i0, e1, _, e3, _⟩ := inf14
  exact m_storeRow e1 h hv hx hy (by rw [e3]; exact hsz) (by rw [e3]; exact hl) h1 hsp
theorem al14 {N : Nat} {ρ : Nat → Value} {H : Hp} {w : World} {L : List Res} {ty : Nat} {cs : List Value} (h : St H w L) (hv : (.agg #[.string ⟨#[]⟩, .int .u64 0] : Value).cells = cs.toArray) : ∃ v' w', Ex Tryd.prog N ρ w (.alloc 14) ty v' w' ∧ ∃ g, v' = .pointer (some ⟨g, 0, none⟩) ∧ St H w' (obj g 14 cs :: L) := by
  obtain ⟨i0, e1, e2, _, _⟩ := inf14
  exact m_alloc e1 e2 h hv
theorem sc15 : scalarT Tryd.prog 15 = true := by kernel_rfl
theorem ld15 {N : Nat} {ρ : Nat → Value} {w : World} {ty : Nat} {x : Operand} {ad : Addr} {v : Value} (hx : Ev N ρ x (.pointer (some ad))) (hc : w.cell? ad = some v) : Ex Tryd.prog N ρ w (.load 15 x) ty v w := x_load sc15 hx hc
theorem sto15 {N : Nat} {ρ : Nat → Value} {H : Hp} {w : World} {L : List Res} {g T ty i : Nat} {x y : Operand} {cs cs' : List Value} {v : Value} (h : St H w (obj g T cs :: L)) (hx : Ev N ρ x (.pointer (some ⟨g, i, none⟩))) (hy : Ev N ρ y v) (hsz : v.cells.size = 1) (hl : i + 1 ≤ cs.length) (h1 : ∀ u ∈ v.cells.toList, u.oneCell' = true) (hsp : splice cs i v.cells.toList = cs') : ∃ w', Ex0 Tryd.prog N ρ w (.store 15 x y) ty w' ∧ St H w' (obj g T cs' :: L) := by
  obtain ⟨i0, e1, _, e3, _⟩ := inf15
  exact m_store e1 h hx hy (by rw [e3]; exact hsz) (by rw [e3]; exact hl) h1 hsp
theorem stor15 {N : Nat} {ρ : Nat → Value} {H : Hp} {w : World} {L : List Res} {g e size n cap ty i : Nat} {x y : Operand} {xs xs' : List Value} {v u : Value} (h : St H w (row e size v n xs :: L)) (hv : v = .slice (some ⟨g, 0, none⟩) n cap) (hx : Ev N ρ x (.pointer (some ⟨g, i, none⟩))) (hy : Ev N ρ y u) (hsz : u.cells.size = 1) (hl : i + 1 ≤ xs.length) (h1 : ∀ u' ∈ u.cells.toList, u'.oneCell' = true) (hsp : splice xs i u.cells.toList = xs') : ∃ w', Ex0 Tryd.prog N ρ w (.store 15 x y) ty w' ∧ St H w' (row e size v n xs' :: L) := by
  obtain ⟨i0, e1, _, e3, _⟩ := inf15
  exact m_storeRow e1 h hv hx hy (by rw [e3]; exact hsz) (by rw [e3]; exact hl) h1 hsp
theorem al15 {N : Nat} {ρ : Nat → Value} {H : Hp} {w : World} {L : List Res} {ty : Nat} {cs : List Value} (h : St H w L) (hv : (.pointer none : Value).cells = cs.toArray) : ∃ v' w', Ex Tryd.prog N ρ w (.alloc 15) ty v' w' ∧ ∃ g, v' = .pointer (some ⟨g, 0, none⟩) ∧ St H w' (obj g 15 cs :: L) := by
  obtain ⟨i0, e1, e2, _, _⟩ := inf15
  exact m_alloc e1 e2 h hv
theorem sc16 : scalarT Tryd.prog 16 = true := by kernel_rfl
theorem ld16 {N : Nat} {ρ : Nat → Value} {w : World} {ty : Nat} {x : Operand} {ad : Addr} {v : Value} (hx : Ev N ρ x (.pointer (some ad))) (hc : w.cell? ad = some v) : Ex Tryd.prog N ρ w (.load 16 x) ty v w := x_load sc16 hx hc
theorem sto16 {N : Nat} {ρ : Nat → Value} {H : Hp} {w : World} {L : List Res} {g T ty i : Nat} {x y : Operand} {cs cs' : List Value} {v : Value} (h : St H w (obj g T cs :: L)) (hx : Ev N ρ x (.pointer (some ⟨g, i, none⟩))) (hy : Ev N ρ y v) (hsz : v.cells.size = 1) (hl : i + 1 ≤ cs.length) (h1 : ∀ u ∈ v.cells.toList, u.oneCell' = true) (hsp : splice cs i v.cells.toList = cs') : ∃ w', Ex0 Tryd.prog N ρ w (.store 16 x y) ty w' ∧ St H w' (obj g T cs' :: L) := by
  obtain ⟨i0, e1, _, e3, _⟩ := inf16
  exact m_store e1 h hx hy (by rw [e3]; exact hsz) (by rw [e3]; exact hl) h1 hsp
theorem stor16 {N : Nat} {ρ : Nat → Value} {H : Hp} {w : World} {L : List Res} {g e size n cap ty i : Nat} {x y : Operand} {xs xs' : List Value} {v u : Value} (h : St H w (row e size v n xs :: L)) (hv : v = .slice (some ⟨g, 0, none⟩) n cap) (hx : Ev N ρ x (.pointer (some ⟨g, i, none⟩))) (hy : Ev N ρ y u) (hsz : u.cells.size = 1) (hl : i + 1 ≤ xs.length) (h1 : ∀ u' ∈ u.cells.toList, u'.oneCell' = true) (hsp : splice xs i u.cells.toList = xs') : ∃ w', Ex0 Tryd.prog N ρ w (.store 16 x y) ty w' ∧ St H w' (row e size v n xs' :: L) := by
  obtain ⟨i0, e1, _, e3, _⟩ := inf16
  exact m_storeRow e1 h hv hx hy (by rw [e3]; exact hsz) (by rw [e3]; exact hl) h1 hsp
theorem al16 {N : Nat} {ρ : Nat → Value} {H : Hp} {w : World} {L : List Res} {ty : Nat} {cs : List Value} (h : St H w L) (hv : (.pointer none : Value).cells = cs.toArray) : ∃ v' w', Ex Tryd.prog N ρ w (.alloc 16) ty v' w' ∧ ∃ g, v' = .pointer (some ⟨g, 0, none⟩) ∧ St H w' (obj g 16 cs :: L) := by
  obtain ⟨i0, e1, e2, _, _⟩ := inf16
  exact m_alloc e1 e2 h hv
theorem sc17 : scalarT Tryd.prog 17 = true := by kernel_rfl
theorem ld17 {N : Nat} {ρ : Nat → Value} {w : World} {ty : Nat} {x : Operand} {ad : Addr} {v : Value} (hx : Ev N ρ x (.pointer (some ad))) (hc : w.cell? ad = some v) : Ex Tryd.prog N ρ w (.load 17 x) ty v w := x_load sc17 hx hc
theorem sto17 {N : Nat} {ρ : Nat → Value} {H : Hp} {w : World} {L : List Res} {g T ty i : Nat} {x y : Operand} {cs cs' : List Value} {v : Value} (h : St H w (obj g T cs :: L)) (hx : Ev N ρ x (.pointer (some ⟨g, i, none⟩))) (hy : Ev N ρ y v) (hsz : v.cells.size = 1) (hl : i + 1 ≤ cs.length) (h1 : ∀ u ∈ v.cells.toList, u.oneCell' = true) (hsp : splice cs i v.cells.toList = cs') : ∃ w', Ex0 Tryd.prog N ρ w (.store 17 x y) ty w' ∧ St H w' (obj g T cs' :: L) := by
  obtain ⟨i0, e1, _, e3, _⟩ := inf17
  exact m_store e1 h hx hy (by rw [e3]; exact hsz) (by rw [e3]; exact hl) h1 hsp
theorem stor17 {N : Nat} {ρ : Nat → Value} {H : Hp} {w : World} {L : List Res} {g e size n cap ty i : Nat} {x y : Operand} {xs xs' : List Value} {v u : Value} (h : St H w (row e size v n xs :: L)) (hv : v = .slice (some ⟨g, 0, none⟩) n cap) (hx : Ev N ρ x (.pointer (some ⟨g, i, none⟩))) (hy : Ev N ρ y u) (hsz : u.cells.size = 1) (hl : i + 1 ≤ xs.length) (h1 : ∀ u' ∈ u.cells.toList, u'.oneCell' = true) (hsp : splice xs i u.cells.toList = xs') : ∃ w', Ex0 Tryd.prog N ρ w (.store 17 x y) ty w' ∧ St H w' (row e size v n xs' :: L) := by
  obtain ⟨i0, e1, _, e3, _⟩ := inf17
  exact m_storeRow e1 h hv hx hy (by rw [e3]; exact hsz) (by rw [e3]; exact hl) h1 hsp
theorem al17 {N : Nat} {ρ : Nat → Value} {H : Hp} {w : World} {L : List Res} {ty : Nat} {cs : List Value} (h : St H w L) (hv : (.pointer none : Value).cells = cs.toArray) : ∃ v' w', Ex Tryd.prog N ρ w (.alloc 17) ty v' w' ∧ ∃ g, v' = .pointer (some ⟨g, 0, none⟩) ∧ St H w' (obj g 17 cs :: L) := by
  obtain ⟨i0, e1, e2, _, _⟩ := inf17
  exact m_alloc e1 e2 h hv
theorem ag18 : aggT Tryd.prog 18 = true := by kernel_rfl
theorem ld18 {N : Nat} {ρ : Nat → Value} {w : World} {ty : Nat} {x : Operand} {ad : Addr} {cs : List Value} (hx : Ev N ρ x (.pointer (some ad))) (hc : At w ad cs) (hl : cs.length = 1) : Ex Tryd.prog N ρ w (.load 18 x) ty (.agg cs.toArray) w := by
  obtain ⟨i0, h1, _, h3, _⟩ := inf18
  exact x_loadA ag18 h1 hx hc (by rw [h3]; exact hl)
theorem lv18 {w : World} {ad : Addr} {cs : List Value} (hc : At w ad cs) (hl : cs.length = 1) : (loadVar 18 ad).run Tryd.prog w = .ok (.agg cs.toArray) w := by
  obtain ⟨i0, h1, _, h3, _⟩ := inf18
  exact run_loadVar_t ag18 h1 hc (by rw [h3]; exact hl)
theorem sto18 {N : Nat} {ρ : Nat → Value} {H : Hp} {w : World} {L : List Res} {g T ty i : Nat} {x y : Operand} {cs cs' : List Value} {v : Value} (h : St H w (obj g T cs :: L)) (hx : Ev N ρ x (.pointer (some ⟨g, i, none⟩))) (hy : Ev N ρ y v) (hsz : v.cells.size = 1) (hl : i + 1 ≤ cs.length) (h1 : ∀ u ∈ v.cells.toList, u.oneCell' = true) (hsp : splice cs i v.cells.toList = cs') : ∃ w', Ex0 Tryd.prog N ρ w (.store 18 x y) ty w' ∧ St H w' (obj g T cs' :: L) := by
  obtain ⟨i0, e1, _, e3, _⟩ := inf18
  exact m_store e1 h hx hy (by rw [e3]; exact hsz) (by rw [e3]; exact hl) h1 hsp
theorem stor18 {N : Nat} {ρ : Nat → Value} {H : Hp} {w : World} {L : List Res} {g e size n cap ty i : Nat} {x y : Operand} {xs xs' : List Value} {v u : Value} (h : St H w (row e size v n xs :: L)) (hv : v = .slice (some ⟨g, 0, none⟩) n cap) (hx : Ev N ρ x (.pointer (some ⟨g, i, none⟩))) (hy : Ev N ρ y u) (hsz : u.cells.size = 1) (hl : i + 1 ≤ xs.length) (h1 : ∀ u' ∈ u.cells.toList, u'.oneCell' = true) (hsp : splice xs i u.cells.toList = xs') : ∃ w', Ex0 Tryd.prog N ρ w (.store 18 x y) ty w' ∧ St H w' (row e size v n xs' :: L) := by
  obtain ⟨i0, e1, _, e3, _⟩ := inf18
  exact m_storeRow e1 h hv hx hy (by rw [e3]; exact hsz) (by rw [e3]; exact hl) h1 hsp
theorem al18 {N : Nat} {ρ : Nat → Value} {H : Hp} {w : World} {L : List Res} {ty : Nat} {cs : List Value} (h : St H w L) (hv : (.agg #[.pointer none] : Value).cells = cs.toArray) : ∃ v' w', Ex Tryd.prog N ρ w (.alloc 18) ty v' w' ∧ ∃ g, v' = .pointer (some ⟨g, 0, none⟩) ∧ St H w' (obj g 18 cs :: L) := by
  obtain ⟨i0, e1, e2, _, _⟩ := inf18
  exact m_alloc e1 e2 h hv
theorem ag19 : aggT Tryd.prog 19 = true := by kernel_rfl
theorem ld19 {N : Nat} {ρ : Nat → Value} {w : World} {ty : Nat} {x : Operand} {ad : Addr} {cs : List Value} (hx : Ev N ρ x (.pointer (some ad))) (hc : At w ad cs) (hl : cs.length = 1) : Ex Tryd.prog N ρ w (.load 19 x) ty (.agg cs.toArray) w := by
  obtain ⟨i0, h1, _, h3, _⟩ := inf19
  exact x_loadA ag19 h1 hx hc (by rw [h3]; exact hl)
theorem lv19 {w : World} {ad : Addr} {cs : List Value} (hc : At w ad cs) (hl : cs.length = 1) : (loadVar 19 ad).run Tryd.prog w = .ok (.agg cs.toArray) w := by
  obtain ⟨i0, h1, _, h3, _⟩ := inf19
  exact run_loadVar_t ag19 h1 hc (by rw [h3]; exact hl)
theorem sto19 {N : Nat} {ρ : Nat → Value} {H : Hp} {w : World} {L : List Res} {g T ty i : Nat} {x y : Operand} {cs cs' : List Value} {v : Value} (h : St H w (obj g T cs :: L)) (hx : Ev N ρ x (.pointer (some ⟨g, i, none⟩))) (hy : Ev N ρ y v) (hsz : v.cells.size = 1) (hl : i + 1 ≤ cs.length) (h1 : ∀ u ∈ v.cells.toList, u.oneCell' = true) (hsp : splice cs i v.cells.toList = cs') : ∃ w', Ex0 Tryd.prog N ρ w (.store 19 x y) ty w' ∧ St H w' (obj g T cs' :: L) := by
  obtain ⟨i0, e1, _, e3, _⟩ := inf19
  exact m_store e1 h hx hy (by rw [e3]; exact hsz) (by rw [e3]; exact hl) h1 hsp
theorem stor19 {N : Nat} {ρ : Nat → Value} {H : Hp} {w : World} {L : List Res} {g e size n cap ty i : Nat} {x y : Operand} {xs xs' : List Value} {v u : Value} (h : St H w (row e size v n xs :: L)) (hv : v = .slice (some ⟨g, 0, none⟩) n cap) (hx : Ev N ρ x (.pointer (some ⟨g, i, none⟩))) (hy : Ev N ρ y u) (hsz : u.cells.size = 1) (hl : i + 1 ≤ xs.length) (h1 : ∀ u' ∈ u.cells.toList, u'.oneCell' = true) (hsp : splice xs i u.cells.toList = xs') : ∃ w', Ex0 Tryd.prog N ρ w (.store 19 x y) ty w' ∧ St H w' (row e size v n xs' :: L) := by
  obtain ⟨i0, e1, _, e3, _⟩ := inf19
  exact m_storeRow e1 h hv hx hy (by rw [e3]; exact hsz) (by rw [e3]; exact hl) h1 hsp
theorem al19 {N : Nat} {ρ : Nat → Value} {H : Hp} {w : World} {L : List Res} {ty : Nat} {cs : List Value} (h : St H w L) (hv : (.agg #[.pointer none] : Value).cells = cs.toArray) : ∃ v' w', Ex Tryd.prog N ρ w (.alloc 19) ty v' w' ∧ ∃ g, v' = .pointer (some ⟨g, 0, none⟩) ∧ St H w' (obj g 19 cs :: L) := by
  obtain ⟨i0, e1, e2, _, _⟩ := inf19
  exact m_alloc e1 e2 h hv
theorem sc21 : scalarT Tryd.prog 21 = true := by kernel_rfl
theorem ld21 {N : Nat} {ρ : Nat → Value} {w : World} {ty : Nat} {x : Operand} {ad : Addr} {v : Value} (hx : Ev N ρ x (.pointer (some ad))) (hc : w.cell? ad = some v) : Ex Tryd.prog N ρ w (.load 21 x) ty v w := x_load sc21 hx hc
theorem sto21 {N : Nat} {ρ : Nat → Value} {H : Hp} {w : World} {L : List Res} {g T ty i : Nat} {x y : Operand} {cs cs' : List Value} {v : Value} (h : St H w (obj g T cs :: L)) (hx : Ev N ρ x (.pointer (some ⟨g, i, none⟩))) (hy : Ev N ρ y v) (hsz : v.cells.size = 1) (hl : i + 1 ≤ cs.length) (h1 : ∀ u ∈ v.cells.toList, u.oneCell' = true) (hsp : splice cs i v.cells.toList = cs') : ∃ w', Ex0 Tryd.prog N ρ w (.store 21 x y) ty w' ∧ St H w' (obj g T cs' :: L) := by
  obtain ⟨i0, e1, _, e3, _⟩ := inf21
  exact m_store e1 h hx hy (by rw [e3]; exact hsz) (by rw [e3]; exact hl) h1 hsp
theorem stor21 {N : Nat} {ρ : Nat → Value} {H : Hp} {w : World} {L : List Res} {g e size n cap ty i : Nat} {x y : Operand} {xs xs' : List Value} {v u : Value} (h : St H w (row e size v n xs :: L)) (hv : v = .slice (some ⟨g, 0, none⟩) n cap) (hx : Ev N ρ x (.pointer (some ⟨g, i, none⟩))) (hy : Ev N ρ y u) (hsz : u.cells.size = 1) (hl : i + 1 ≤ xs.length) (h1 : ∀ u' ∈ u.cells.toList, u'.oneCell' = true) (hsp : splice xs i u.cells.toList = xs') : ∃ w', Ex0 Tryd.prog N ρ w (.store 21 x y) ty w' ∧ St H w' (row e size v n xs' :: L) := by
  obtain ⟨i0, e1, _, e3, _⟩ := inf21
  exact m_storeRow e1 h hv hx hy (by rw [e3]; exact hsz) (by rw [e3]; exact hl) h1 hsp
theorem al21 {N : Nat} {ρ : Nat → Value} {H : Hp} {w : World} {L : List Res} {ty : Nat} {cs : List Value} (h : St H w L) (hv : (.int .i32 0 : Value).cells = cs.toArray) : ∃ v' w', Ex Tryd.prog N ρ w (.alloc 21) ty v' w' ∧ ∃ g, v' = .pointer (some ⟨g, 0, none⟩) ∧ St H w' (obj g 21 cs :: L) := by
  obtain ⟨i0, e1, e2, _, _⟩ := inf21
  exact m_alloc e1 e2 h hv
theorem sc22 : scalarT Tryd.prog 22 = true := by kernel_rfl
theorem ld22 {N : Nat} {ρ : Nat → Value} {w : World} {ty : Nat} {x : Operand} {ad : Addr} {v : Value} (hx : Ev N ρ x (.pointer (some ad))) (hc : w.cell? ad = some v) : Ex Tryd.prog N ρ w (.load 22 x) ty v w := x_load sc22 hx hc
theorem sto22 {N : Nat} {ρ : Nat → Value} {H : Hp} {w : World} {L : List Res} {g T ty i : Nat} {x y : Operand} {cs cs' : List Value} {v : Value} (h : St H w (obj g T cs :: L)) (hx : Ev N ρ x (.pointer (some ⟨g, i, none⟩))) (hy : Ev N ρ y v) (hsz : v.cells.size = 1) (hl : i + 1 ≤ cs.length) (h1 : ∀ u ∈ v.cells.toList, u.oneCell' = true) (hsp : splice cs i v.cells.toList = cs') : ∃ w', Ex0 Tryd.prog N ρ w (.store 22 x y) ty w' ∧ St H w' (obj g T cs' :: L) := by
  obtain ⟨i0, e1, _, e3, _⟩ := inf22
  exact m_store e1 h hx hy (by rw [e3]; exact hsz) (by rw [e3]; exact hl) h1 hsp
theorem stor22 {N : Nat} {ρ : Nat → Value} {H : Hp} {w : World} {L : List Res} {g e size n cap ty i : Nat} {x y : Operand} {xs xs' : List Value} {v u : Value} (h : St H w (row e size v n xs :: L)) (hv : v = .slice (some ⟨g, 0, none⟩) n cap) (hx : Ev N ρ x (.pointer (some ⟨g, i, none⟩))) (hy : Ev N ρ y u) (hsz : u.cells.size = 1) (hl : i + 1 ≤ xs.length) (h1 : ∀ u' ∈ u.cells.toList, u'.oneCell' = true) (hsp : splice xs i u.cells.toList = xs') : ∃ w', Ex0 Tryd.prog N ρ w (.store 22 x y) ty w' ∧ St H w' (row e size v n xs' :: L) := by
  obtain ⟨i0, e1, _, e3, _⟩ := inf22
  exact m_storeRow e1 h hv hx hy (by rw [e3]; exact hsz) (by rw [e3]; exact hl) h1 hsp
theorem al22 {N : Nat} {ρ : Nat → Value} {H : Hp} {w : World} {L : List Res} {ty : Nat} {cs : List Value} (h : St H w L) (hv : (.slice none 0 0 : Value).cells = cs.toArray) : ∃ v' w', Ex Tryd.prog N ρ w (.alloc 22) ty v' w' ∧ ∃ g, v' = .pointer (some ⟨g, 0, none⟩) ∧ St H w' (obj g 22 cs :: L) := by
  obtain ⟨i0, e1, e2, _, _⟩ := inf22
  exact m_alloc e1 e2 h hv
theorem sc24 : scalarT Tryd.prog 24 = true := by kernel_rfl
theorem ld24 {N : Nat} {ρ : Nat → Value} {w : World} {ty : Nat} {x : Operand} {ad : Addr} {v : Value} (hx : Ev N ρ x (.pointer (some ad))) (hc : w.cell? ad = some v) : Ex Tryd.prog N ρ w (.load 24 x) ty v w := x_load sc24 hx hc
theorem sto24 {N : Nat} {ρ : Nat → Value} {H : Hp} {w : World} {L : List Res} {g T ty i : Nat} {x y : Operand} {cs cs' : List Value} {v : Value} (h : St H w (obj g T cs :: L)) (hx : Ev N ρ x (.pointer (some ⟨g, i, none⟩))) (hy : Ev N ρ y v) (hsz : v.cells.size = 1) (hl : i + 1 ≤ cs.length) (h1 : ∀ u ∈ v.cells.toList, u.oneCell' = true) (hsp : splice cs i v.cells.toList = cs') : ∃ w', Ex0 Tryd.prog N ρ w (.store 24 x y) ty w' ∧ St H w' (obj g T cs' :: L) := by
  obtain ⟨i0, e1, _, e3, _⟩ := inf24
  exact m_store e1 h hx hy (by rw [e3]; exact hsz) (by rw [e3]; exact hl) h1 hsp
theorem stor24 {N : Nat} {ρ : Nat → Value} {H : Hp} {w : World} {L : List Res} {g e size n cap ty i : Nat} {x y : Operand} {xs xs' : List Value} {v u : Value} (h : St H w (row e size v n xs :: L)) (hv : v = .slice (some ⟨g, 0, none⟩) n cap) (hx : Ev N ρ x (.pointer (some ⟨g, i, none⟩))) (hy : Ev N ρ y u) (hsz : u.cells.size = 1) (hl : i + 1 ≤ xs.length) (h1 : ∀ u' ∈ u.cells.toList, u'.oneCell' = true) (hsp : splice xs i u.cells.toList = xs') : ∃ w', Ex0 Tryd.prog N ρ w (.store 24 x y) ty w' ∧ St H w' (row e size v n xs' :: L) := by
  obtain ⟨i0, e1, _, e3, _⟩ := inf24
  exact m_storeRow e1 h hv hx hy (by rw [e3]; exact hsz) (by rw [e3]; exact hl) h1 hsp
theorem al24 {N : Nat} {ρ : Nat → Value} {H : Hp} {w : World} {L : List Res} {ty : Nat} {cs : List Value} (h : St H w L) (hv : (.pointer none : Value).cells = cs.toArray) : ∃ v' w', Ex Tryd.prog N ρ w (.alloc 24) ty v' w' ∧ ∃ g, v' = .pointer (some ⟨g, 0, none⟩) ∧ St H w' (obj g 24 cs :: L) := by
  obtain ⟨i0, e1, e2, _, _⟩ := inf24
  exact m_alloc e1 e2 h hv
theorem sc25 : scalarT Tryd.prog 25 = true := by kernel_rfl
theorem ld25 {N : Nat} {ρ : Nat → Value} {w : World} {ty : Nat} {x : Operand} {ad : Addr} {v : Value} (hx : Ev N ρ x (.pointer (some ad))) (hc : w.cell? ad = some v) : Ex Tryd.prog N ρ w (.load 25 x) ty v w := x_load sc25 hx hc
theorem sto25 {N : Nat} {ρ : Nat → Value} {H : Hp} {w : World} {L : List Res} {g T ty i : Nat} {x y : Operand} {cs cs' : List Value} {v : Value} (h : St H w (obj g T cs :: L)) (hx : Ev N ρ x (.pointer (some ⟨g, i, none⟩))) (hy : Ev N ρ y v) (hsz : v.cells.size = 1) (hl : i + 1 ≤ cs.length) (h1 : ∀ u ∈ v.cells.toList, u.oneCell' = true) (hsp : splice cs i v.cells.toList = cs') : ∃ w', Ex0 Tryd.prog N ρ w (.store 25 x y) ty w' ∧ St H w' (obj g T cs' :: L) := by
  obtain ⟨i0, e1, _, e3, _⟩ := inf25
  exact m_store e1 h hx hy (by rw [e3]; exact hsz) (by rw [e3]; exact hl) h1 hsp
theorem stor25 {N : Nat} {ρ : Nat → Value} {H : Hp} {w : World} {L : List Res} {g e size n cap ty i : Nat} {x y : Operand} {xs xs' : List Value} {v u : Value} (h : St H w (row e size v n xs :: L)) (hv : v = .slice (some ⟨g, 0, none⟩) n cap) (hx : Ev N ρ x (.pointer (some ⟨g, i, none⟩))) (hy : Ev N ρ y u) (hsz : u.cells.size = 1) (hl : i + 1 ≤ xs.length) (h1 : ∀ u' ∈ u.cells.toList, u'.oneCell' = true) (hsp : splice xs i u.cells.toList = xs') : ∃ w', Ex0 Tryd.prog N ρ w (.store 25 x y) ty w' ∧ St H w' (row e size v n xs' :: L) := by
  obtain ⟨i0, e1, _, e3, _⟩ := inf25
  exact m_storeRow e1 h hv hx hy (by rw [e3]; exact hsz) (by rw [e3]; exact hl) h1 hsp
theorem al25 {N : Nat} {ρ : Nat → Value} {H : Hp} {w : World} {L : List Res} {ty : Nat} {cs : List Value} (h : St H w L) (hv : (.int .i64 0 : Value).cells = cs.toArray) : ∃ v' w', Ex Tryd.prog N ρ w (.alloc 25) ty v' w' ∧ ∃ g, v' = .pointer (some ⟨g, 0, none⟩) ∧ St H w' (obj g 25 cs :: L) := by
  obtain ⟨i0, e1, e2, _, _⟩ := inf25
  exact m_alloc e1 e2 h hv
theorem sc29 : scalarT Tryd.prog 29 = true := by kernel_rfl
theorem ld29 {N : Nat} {ρ : Nat → Value} {w : World} {ty : Nat} {x : Operand} {ad : Addr} {v : Value} (hx : Ev N ρ x (.pointer (some ad))) (hc : w.cell? ad = some v) : Ex Tryd.prog N ρ w (.load 29 x) ty v w := x_load sc29 hx hc
theorem sto29 {N : Nat} {ρ : Nat → Value} {H : Hp} {w : World} {L : List Res} {g T ty i : Nat} {x y : Operand} {cs cs' : List Value} {v : Value} (h : St H w (obj g T cs :: L)) (hx : Ev N ρ x (.pointer (some ⟨g, i, none⟩))) (hy : Ev N ρ y v) (hsz : v.cells.size = 1) (hl : i + 1 ≤ cs.length) (h1 : ∀ u ∈ v.cells.toList, u.oneCell' = true) (hsp : splice cs i v.cells.toList = cs') : ∃ w', Ex0 Tryd.prog N ρ w (.store 29 x y) ty w' ∧ St H w' (obj g T cs' :: L) := by
  obtain ⟨i0, e1, _, e3, _⟩ := inf29
  exact m_store e1 h hx hy (by rw [e3]; exact hsz) (by rw [e3]; exact hl) h1 hsp
theorem stor29 {N : Nat} {ρ : Nat → Value} {H : Hp} {w : World} {L : List Res} {g e size n cap ty i : Nat} {x y : Operand} {xs xs' : List Value} {v u : Value} (h : St H w (row e size v n xs :: L)) (hv : v = .slice (some ⟨g, 0, none⟩) n cap) (hx : Ev N ρ x (.pointer (some ⟨g, i, none⟩))) (hy : Ev N ρ y u) (hsz : u.cells.size = 1) (hl : i + 1 ≤ xs.length) (h1 : ∀ u' ∈ u.cells.toList, u'.oneCell' = true) (hsp : splice xs i u.cells.toList = xs') : ∃ w', Ex0 Tryd.prog N ρ w (.store 29 x y) ty w' ∧ St H w' (row e size v n xs' :: L) := by
  obtain ⟨i0, e1, _, e3, _⟩ := inf29
  exact m_storeRow e1 h hv hx hy (by rw [e3]; exact hsz) (by rw [e3]; exact hl) h1 hsp
theorem al29 {N : Nat} {ρ : Nat → Value} {H : Hp} {w : World} {L : List Res} {ty : Nat} {cs : List Value} (h : St H w L) (hv : (.int .u16 0 : Value).cells = cs.toArray) : ∃ v' w', Ex Tryd.prog N ρ w (.alloc 29) ty v' w' ∧ ∃ g, v' = .pointer (some ⟨g, 0, none⟩) ∧ St H w' (obj g 29 cs :: L) := by
  obtain ⟨i0, e1, e2, _, _⟩ := inf29
  exact m_alloc e1 e2 h hv
theorem sc34 : scalarT Tryd.prog 34 = true := by kernel_rfl
theorem ld34 {N : Nat} {ρ : Nat → Value} {w : World} {ty : Nat} {x : Operand} {ad : Addr} {v : Value} (hx : Ev N ρ x (.pointer (some ad))) (hc : w.cell? ad = some v) : Ex Tryd.prog N ρ w (.load 34 x) ty v w := x_load sc34 hx hc
theorem sto34 {N : Nat} {ρ : Nat → Value} {H : Hp} {w : World} {L : List Res} {g T ty i : Nat} {x y : Operand} {cs cs' : List Value} {v : Value} (h : St H w (obj g T cs :: L)) (hx : Ev N ρ x (.pointer (some ⟨g, i, none⟩))) (hy : Ev N ρ y v) (hsz : v.cells.size = 1) (hl : i + 1 ≤ cs.length) (h1 : ∀ u ∈ v.cells.toList, u.oneCell' = true) (hsp : splice cs i v.cells.toList = cs') : ∃ w', Ex0 Tryd.prog N ρ w (.store 34 x y) ty w' ∧ St H w' (obj g T cs' :: L) := by
  obtain ⟨i0, e1, _, e3, _⟩ := inf34
  exact m_store e1 h hx hy (by rw [e3]; exact hsz) (by rw [e3]; exact hl) h1 hsp
theorem stor34 {N : Nat} {ρ : Nat → Value} {H : Hp} {w : World} {L : List Res} {g e size n cap ty i : Nat} {x y : Operand} {xs xs' : List Value} {v u : Value} (h : St H w (row e size v n xs :: L)) (hv : v = .slice (some ⟨g, 0, none⟩) n cap) (hx : Ev N ρ x (.pointer (some ⟨g, i, none⟩))) (hy : Ev N ρ y u) (hsz : u.cells.size = 1) (hl : i + 1 ≤ xs.length) (h1 : ∀ u' ∈ u.cells.toList, u'.oneCell' = true) (hsp : splice xs i u.cells.toList = xs') : ∃ w', Ex0 Tryd.prog N ρ w (.store 34 x y) ty w' ∧ St H w' (row e size v n xs' :: L) := by
  obtain ⟨i0, e1, _, e3, _⟩ := inf34
  exact m_storeRow e1 h hv hx hy (by rw [e3]; exact hsz) (by rw [e3]; exact hl) h1 hsp
theorem al34 {N : Nat} {ρ : Nat → Value} {H : Hp} {w : World} {L : List Res} {ty : Nat} {cs : List Value} (h : St H w L) (hv : (.slice none 0 0 : Value).cells = cs.toArray) : ∃ v' w', Ex Tryd.prog N ρ w (.alloc 34) ty v' w' ∧ ∃ g, v' = .pointer (some ⟨g, 0, none⟩) ∧ St H w' (obj g 34 cs :: L) := by
  obtain ⟨i0, e1, e2, _, _⟩ := inf34
  exact m_alloc e1 e2 h hv
theorem ag36 : aggT Tryd.prog 36 = true := by kernel_rfl
theorem ld36 {N : Nat} {ρ : Nat → Value} {w : World} {ty : Nat} {x : Operand} {ad : Addr} {cs : List Value} (hx : Ev N ρ x (.pointer (some ad))) (hc : At w ad cs) (hl : cs.length = 3) : Ex Tryd.prog N ρ w (.load 36 x) ty (.agg cs.toArray) w := by
  obtain ⟨i0, h1, _, h3, _⟩ := inf36
  exact x_loadA ag36 h1 hx hc (by rw [h3]; exact hl)
theorem lv36 {w : World} {ad : Addr} {cs : List Value} (hc : At w ad cs) (hl : cs.length = 3) : (loadVar 36 ad).run Tryd.prog w = .ok (.agg cs.toArray) w := by
  obtain ⟨i0, h1, _, h3, _⟩ := inf36
  exact run_loadVar_t ag36 h1 hc (by rw [h3]; exact hl)
theorem sto36 {N : Nat} {ρ : Nat → Value} {H : Hp} {w : World} {L : List Res} {g T ty i : Nat} {x y : Operand} {cs cs' : List Value} {v : Value} (h : St H w (obj g T cs :: L)) (hx : Ev N ρ x (.pointer (some ⟨g, i, none⟩))) (hy : Ev N ρ y v) (hsz : v.cells.size = 3) (hl : i + 3 ≤ cs.length) (h1 : ∀ u ∈ v.cells.toList, u.oneCell' = true) (hsp : splice cs i v.cells.toList = cs') : ∃ w', Ex0 Tryd.prog N ρ w (.store 36 x y) ty w' ∧ St H w' (obj g T cs' :: L) := by
  obtain ⟨i0, e1, _, e3, _⟩ := inf36
  exact m_store e1 h hx hy (by rw [e3]; exact hsz) (by rw [e3]; exact hl) h1 hsp
theorem stor36 {N : Nat} {ρ : Nat → Value} {H : Hp} {w : World} {L : List Res} {g e size n cap ty i : Nat} {x y : Operand} {xs xs' : List Value} {v u : Value} (h : St H w (row e size v n xs :: L)) (hv : v = .slice (some ⟨g, 0, none⟩) n cap) (hx : Ev N ρ x (.pointer (some ⟨g, i, none⟩))) (hy : Ev N ρ y u) (hsz : u.cells.size = 3) (hl : i + 3 ≤ xs.length) (h1 : ∀ u' ∈ u.cells.toList, u'.oneCell' = true) (hsp : splice xs i u.cells.toList = xs') : ∃ w', Ex0 Tryd.prog N ρ w (.store 36 x y) ty w' ∧ St H w' (row e size v n xs' :: L) := by
  obtain ⟨i0, e1, _, e3, _⟩ := inf36
  exact m_storeRow e1 h hv hx hy (by rw [e3]; exact hsz) (by rw [e3]; exact hl) h1 hsp
theorem al36 {N : Nat} {ρ : Nat → Value} {H : Hp} {w : World} {L : List Res} {ty : Nat} {cs : List Value} (h : St H w L) (hv : (.agg #[.int .i64 0, .int .i64 0, .slice none 0 0] : Value).cells = cs.toArray) : ∃ v' w', Ex Tryd.prog N ρ w (.alloc 36) ty v' w' ∧ ∃ g, v' = .pointer (some ⟨g, 0, none⟩) ∧ St H w' (obj g 36 cs :: L) := by
  obtain ⟨i0, e1, e2, _, _⟩ := inf36
  exact m_alloc e1 e2 h hv
theorem ag37 : aggT Tryd.prog 37 = true := by kernel_rfl
theorem ld37 {N : Nat} {ρ : Nat → Value} {w : World} {ty : Nat} {x : Operand} {ad : Addr} {cs : List Value} (hx : Ev N ρ x (.pointer (some ad))) (hc : At w ad cs) (hl : cs.length = 3) : Ex Tryd.prog N ρ w (.load 37 x) ty (.agg cs.toArray) w := by
  obtain ⟨i0, h1, _, h3, _⟩ := inf37
  exact x_loadA ag37 h1 hx hc (by rw [h3]; exact hl)
theorem lv37 {w : World} {ad : Addr} {cs : List Value} (hc : At w ad cs) (hl : cs.length = 3) : (loadVar 37 ad).run Tryd.prog w = .ok (.agg cs.toArray) w := by
  obtain ⟨i0, h1, _, h3, _⟩ := inf37
  exact run_loadVar_t ag37 h1 hc (by rw [h3]; exact hl)
theorem sto37 {N : Nat} {ρ : Nat → Value} {H : Hp} {w : World} {L : List Res} {g T ty i : Nat} {x y : Operand} {cs cs' : List Value} {v : Value} (h : St H w (obj g T cs :: L)) (hx : Ev N ρ x (.pointer (some ⟨g, i, none⟩))) (hy : Ev N ρ y v) (hsz : v.cells.size = 3) (hl : i + 3 ≤ cs.length) (h1 : ∀ u ∈ v.cells.toList, u.oneCell' = true) (hsp : splice cs i v.cells.toList = cs') : ∃ w', Ex0 Tryd.prog N ρ w (.store 37 x y) ty w' ∧ St H w' (obj g T cs' :: L) := by
  obtain ⟨i0, e1, _, e3, _⟩ := inf37
  exact m_store e1 h hx hy (by rw [e3]; exact hsz) (by rw [e3]; exact hl) h1 hsp
theorem stor37 {N : Nat} {ρ : Nat → Value} {H : Hp} {w : World} {L : List Res} {g e size n cap ty i : Nat} {x y : Operand} {xs xs' : List Value} {v u : Value} (h : St H w (row e size v n xs :: L)) (hv : v = .slice (some ⟨g, 0, none⟩) n cap) (hx : Ev N ρ x (.pointer (some ⟨g, i, none⟩))) (hy : Ev N ρ y u) (hsz : u.cells.size = 3) (hl : i + 3 ≤ xs.length) (h1 : ∀ u' ∈ u.cells.toList, u'.oneCell' = true) (hsp : splice xs i u.cells.toList = xs') : ∃ w', Ex0 Tryd.prog N ρ w (.store 37 x y) ty w' ∧ St H w' (row e size v n xs' :: L) := by
  obtain ⟨i0, e1, _, e3, _⟩ := inf37
  exact m_storeRow e1 h hv hx hy (by rw [e3]; exact hsz) (by rw [e3]; exact hl) h1 hsp
theorem al37 {N : Nat} {ρ : Nat → Value} {H : Hp} {w : World} {L : List Res} {ty : Nat} {cs : List Value} (h : St H w L) (hv : (.agg #[.int .i64 0, .int .i64 0, .slice none 0 0] : Value).cells = cs.toArray) : ∃ v' w', Ex Tryd.prog N ρ w (.alloc 37) ty v' w' ∧ ∃ g, v' = .pointer (some ⟨g, 0, none⟩) ∧ St H w' (obj g 37 cs :: L) := by
  obtain ⟨i0, e1, e2, _, _⟩ := inf37
  exact m_alloc e1 e2 h hv
theorem sc43 : scalarT Tryd.prog 43 = true := by kernel_rfl
theorem ld43 {N : Nat} {ρ : Nat → Value} {w : World} {ty : Nat} {x : Operand} {ad : Addr} {v : Value} (hx : Ev N ρ x (.pointer (some ad))) (hc : w.cell? ad = some v) : Ex Tryd.prog N ρ w (.load 43 x) ty v w := x_load sc43 hx hc
theorem sto43 {N : Nat} {ρ : Nat → Value} {H : Hp} {w : World} {L : List Res} {g T ty i : Nat} {x y : Operand} {cs cs' : List Value} {v : Value} (h : St H w (obj g T cs :: L)) (hx : Ev N ρ x (.pointer (some ⟨g, i, none⟩))) (hy : Ev N ρ y v) (hsz : v.cells.size = 1) (hl : i + 1 ≤ cs.length) (h1 : ∀ u ∈ v.cells.toList, u.oneCell' = true) (hsp : splice cs i v.cells.toList = cs') : ∃ w', Ex0 Tryd.prog N ρ w (.store 43 x y) ty w' ∧ St H w' (obj g T cs' :: L) := by
  obtain ⟨i0, e1, _, e3, _⟩ := inf43
  exact m_store e1 h hx hy (by rw [e3]; exact hsz) (by rw [e3]; exact hl) h1 hsp
theorem stor43 {N : Nat} {ρ : Nat → Value} {H : Hp} {w : World} {L : List Res} {g e size n cap ty i : Nat} {x y : Operand} {xs xs' : List Value} {v u : Value} (h : St H w (row e size v n xs :: L)) (hv : v = .slice (some ⟨g, 0, none⟩) n cap) (hx : Ev N ρ x (.pointer (some ⟨g, i, none⟩))) (hy : Ev N ρ y u) (hsz : u.cells.size = 1) (hl : i + 1 ≤ xs.length) (h1 : ∀ u' ∈ u.cells.toList, u'.oneCell' = true) (hsp : splice xs i u.cells.toList = xs') : ∃ w', Ex0 Tryd.prog N ρ w (.store 43 x y) ty w' ∧ St H w' (row e size v n xs' :: L) := by
  obtain ⟨i0, e1, _, e3, _⟩ := inf43
  exact m_storeRow e1 h hv hx hy (by rw [e3]; exact hsz) (by rw [e3]; exact hl) h1 hsp
theorem al43 {N : Nat} {ρ : Nat → Value} {H : Hp} {w : World} {L : List Res} {ty : Nat} {cs : List Value} (h : St H w L) (hv : (.slice none 0 0 : Value).cells = cs.toArray) : ∃ v' w', Ex Tryd.prog N ρ w (.alloc 43) ty v' w' ∧ ∃ g, v' = .pointer (some ⟨g, 0, none⟩) ∧ St H w' (obj g 43 cs :: L) := by
  obtain ⟨i0, e1, e2, _, _⟩ := inf43
  exact m_alloc e1 e2 h hv
theorem sc44 : scalarT Tryd.prog 44 = true := by kernel_rfl
theorem ld44 {N : Nat} {ρ : Nat → Value} {w : World} {ty : Nat} {x : Operand} {ad : Addr} {v : Value} (hx : Ev N ρ x (.pointer (some ad))) (hc : w.cell? ad = some v) : Ex Tryd.prog N ρ w (.load 44 x) ty v w := x_load sc44 hx hc
theorem sto44 {N : Nat} {ρ : Nat → Value} {H : Hp} {w : World} {L : List Res} {g T ty i : Nat} {x y : Operand} {cs cs' : List Value} {v : Value} (h : St H w (obj g T cs :: L)) (hx : Ev N ρ x (.pointer (some ⟨g, i, none⟩))) (hy : Ev N ρ y v) (hsz : v.cells.size = 1) (hl : i + 1 ≤ cs.length) (h1 : ∀ u ∈ v.cells.toList, u.oneCell' = true) (hsp : splice cs i v.cells.toList = cs') : ∃ w', Ex0 Tryd.prog N ρ w (.store 44 x y) ty w' ∧ St H w' (obj g T cs' :: L) := by
  obtain ⟨i0, e1, _, e3, _⟩ := inf44
  exact m_store e1 h hx hy (by rw [e3]; exact hsz) (by rw [e3]; exact hl) h1 hsp
theorem stor44 {N : Nat} {ρ : Nat → Value} {H : Hp} {w : World} {L : List Res} {g e size n cap ty i : Nat} {x y : Operand} {xs xs' : List Value} {v u : Value} (h : St H w (row e size v n xs :: L)) (hv : v = .slice (some ⟨g, 0, none⟩) n cap) (hx : Ev N ρ x (.pointer (some ⟨g, i, none⟩))) (hy : Ev N ρ y u) (hsz : u.cells.size = 1) (hl : i + 1 ≤ xs.length) (h1 : ∀ u' ∈ u.cells.toList, u'.oneCell' = true) (hsp : splice xs i u.cells.toList = xs') : ∃ w', Ex0 Tryd.prog N ρ w (.store 44 x y) ty w' ∧ St H w' (row e size v n xs' :: L) := by
  obtain ⟨i0, e1, _, e3, _⟩ := inf44
  exact m_storeRow e1 h hv hx hy (by rw [e3]; exact hsz) (by rw [e3]; exact hl) h1 hsp
theorem al44 {N : Nat} {ρ : Nat → Value} {H : Hp} {w : World} {L : List Res} {ty : Nat} {cs : List Value} (h : St H w L) (hv : (.slice none 0 0 : Value).cells = cs.toArray) : ∃ v' w', Ex Tryd.prog N ρ w (.alloc 44) ty v' w' ∧ ∃ g, v' = .pointer (some ⟨g, 0, none⟩) ∧ St H w' (obj g 44 cs :: L) := by
  obtain ⟨i0, e1, e2, _, _⟩ := inf44
  exact m_alloc e1 e2 h hv
theorem sc49 : scalarT Tryd.prog 49 = true := by kernel_rfl
theorem ld49 {N : Nat} {ρ : Nat → Value} {w : World} {ty : Nat} {x : Operand} {ad : Addr} {v : Value} (hx : Ev N ρ x (.pointer (some ad))) (hc : w.cell? ad = some v) : Ex Tryd.prog N ρ w (.load 49 x) ty v w := x_load sc49 hx hc
theorem sto49 {N : Nat} {ρ : Nat → Value} {H : Hp} {w : World} {L : List Res} {g T ty i : Nat} {x y : Operand} {cs cs' : List Value} {v : Value} (h : St H w (obj g T cs :: L)) (hx : Ev N ρ x (.pointer (some ⟨g, i, none⟩))) (hy : Ev N ρ y v) (hsz : v.cells.size = 1) (hl : i + 1 ≤ cs.length) (h1 : ∀ u ∈ v.cells.toList, u.oneCell' = true) (hsp : splice cs i v.cells.toList = cs') : ∃ w', Ex0 Tryd.prog N ρ w (.store 49 x y) ty w' ∧ St H w' (obj g T cs' :: L) := by
  obtain ⟨i0, e1, _, e3, _⟩ := inf49
  exact m_store e1 h hx hy (by rw [e3]; exact hsz) (by rw [e3]; exact hl) h1 hsp
theorem stor49 {N : Nat} {ρ : Nat → Value} {H : Hp} {w : World} {L : List Res} {g e size n cap ty i : Nat} {x y : Operand} {xs xs' : List Value} {v u : Value} (h : St H w (row e size v n xs :: L)) (hv : v = .slice (some ⟨g, 0, none⟩) n cap) (hx : Ev N ρ x (.pointer (some ⟨g, i, none⟩))) (hy : Ev N ρ y u) (hsz : u.cells.size = 1) (hl : i + 1 ≤ xs.length) (h1 : ∀ u' ∈ u.cells.toList, u'.oneCell' = true) (hsp : splice xs i u.cells.toList = xs') : ∃ w', Ex0 Tryd.prog N ρ w (.store 49 x y) ty w' ∧ St H w' (row e size v n xs' :: L) := by
  obtain ⟨i0, e1, _, e3, _⟩ := inf49
  exact m_storeRow e1 h hv hx hy (by rw [e3]; exact hsz) (by rw [e3]; exact hl) h1 hsp
theorem al49 {N : Nat} {ρ : Nat → Value} {H : Hp} {w : World} {L : List Res} {ty : Nat} {cs : List Value} (h : St H w L) (hv : (.slice none 0 0 : Value).cells = cs.toArray) : ∃ v' w', Ex Tryd.prog N ρ w (.alloc 49) ty v' w' ∧ ∃ g, v' = .pointer (some ⟨g, 0, none⟩) ∧ St H w' (obj g 49 cs :: L) := by
  obtain ⟨i0, e1, e2, _, _⟩ := inf49
  exact m_alloc e1 e2 h hv
theorem sc50 : scalarT Tryd.prog 50 = true := by kernel_rfl
theorem ld50 {N : Nat} {ρ : Nat → Value} {w : World} {ty : Nat} {x : Operand} {ad : Addr} {v : Value} (hx : Ev N ρ x (.pointer (some ad))) (hc : w.cell? ad = some v) : Ex Tryd.prog N ρ w (.load 50 x) ty v w := x_load sc50 hx hc
theorem sto50 {N : Nat} {ρ : Nat → Value} {H : Hp} {w : World} {L : List Res} {g T ty i : Nat} {x y : Operand} {cs cs' : List Value} {v : Value} (h : St H w (obj g T cs :: L)) (hx : Ev N ρ x (.pointer (some ⟨g, i, none⟩))) (hy : Ev N ρ y v) (hsz : v.cells.size = 1) (hl : i + 1 ≤ cs.length) (h1 : ∀ u ∈ v.cells.toList, u.oneCell' = true) (hsp : splice cs i v.cells.toList = cs') : ∃ w', Ex0 Tryd.prog N ρ w (.store 50 x y) ty w' ∧ St H w' (obj g T cs' :: L) := by
  obtain ⟨i0, e1, _, e3, _⟩ := inf50
  exact m_store e1 h hx hy (by rw [e3]; exact hsz) (by rw [e3]; exact hl) h1 hsp
theorem stor50 {N : Nat} {ρ : Nat → Value} {H : Hp} {w : World} {L : List Res} {g e size n cap ty i : Nat} {x y : Operand} {xs xs' : List Value} {v u : Value} (h : St H w (row e size v n xs :: L)) (hv : v = .slice (some ⟨g, 0, none⟩) n cap) (hx : Ev N ρ x (.pointer (some ⟨g, i, none⟩))) (hy : Ev N ρ y u) (hsz : u.cells.size = 1) (hl : i + 1 ≤ xs.length) (h1 : ∀ u' ∈ u.cells.toList, u'.oneCell' = true) (hsp : splice xs i u.cells.toList = xs') : ∃ w', Ex0 Tryd.prog N ρ w (.store 50 x y) ty w' ∧ St H w' (row e size v n xs' :: L) := by
  obtain ⟨i0, e1, _, e3, _⟩ := inf50
  exact m_storeRow e1 h hv hx hy (by rw [e3]; exact hsz) (by rw [e3]; exact hl) h1 hsp
theorem al50 {N : Nat} {ρ : Nat → Value} {H : Hp} {w : World} {L : List Res} {ty : Nat} {cs : List Value} (h : St H w L) (hv : (.pointer none : Value).cells = cs.toArray) : ∃ v' w', Ex Tryd.prog N ρ w (.alloc 50) ty v' w' ∧ ∃ g, v' = .pointer (some ⟨g, 0, none⟩) ∧ St H w' (obj g 50 cs :: L) := by
  obtain ⟨i0, e1, e2, _, _⟩ := inf50
  exact m_alloc e1 e2 h hv
theorem sc51 : scalarT Tryd.prog 51 = true := by kernel_rfl
theorem ld51 {N : Nat} {ρ : Nat → Value} {w : World} {ty : Nat} {x : Operand} {ad : Addr} {v : Value} (hx : Ev N ρ x (.pointer (some ad))) (hc : w.cell? ad = some v) : Ex Tryd.prog N ρ w (.load 51 x) ty v w := x_load sc51 hx hc
theorem sto51 {N : Nat} {ρ : Nat → Value} {H : Hp} {w : World} {L : List Res} {g T ty i : Nat} {x y : Operand} {cs cs' : List Value} {v : Value} (h : St H w (obj g T cs :: L)) (hx : Ev N ρ x (.pointer (some ⟨g, i, none⟩))) (hy : Ev N ρ y v) (hsz : v.cells.size = 1) (hl : i + 1 ≤ cs.length) (h1 : ∀ u ∈ v.cells.toList, u.oneCell' = true) (hsp : splice cs i v.cells.toList = cs') : ∃ w', Ex0 Tryd.prog N ρ w (.store 51 x y) ty w' ∧ St H w' (obj g T cs' :: L) := by
  obtain ⟨i0, e1, _, e3, _⟩ := inf51
  exact m_store e1 h hx hy (by rw [e3]; exact hsz) (by rw [e3]; exact hl) h1 hsp
theorem stor51 {N : Nat} {ρ : Nat → Value} {H : Hp} {w : World} {L : List Res} {g e size n cap ty i : Nat} {x y : Operand} {xs xs' : List Value} {v u : Value} (h : St H w (row e size v n xs :: L)) (hv : v = .slice (some ⟨g, 0, none⟩) n cap) (hx : Ev N ρ x (.pointer (some ⟨g, i, none⟩))) (hy : Ev N ρ y u) (hsz : u.cells.size = 1) (hl : i + 1 ≤ xs.length) (h1 : ∀ u' ∈ u.cells.toList, u'.oneCell' = true) (hsp : splice xs i u.cells.toList = xs') : ∃ w', Ex0 Tryd.prog N ρ w (.store 51 x y) ty w' ∧ St H w' (row e size v n xs' :: L) := by
  obtain ⟨i0, e1, _, e3, _⟩ := inf51
  exact m_storeRow e1 h hv hx hy (by rw [e3]; exact hsz) (by rw [e3]; exact hl) h1 hsp
theorem al51 {N : Nat} {ρ : Nat → Value} {H : Hp} {w : World} {L : List Res} {ty : Nat} {cs : List Value} (h : St H w L) (hv : (.slice none 0 0 : Value).cells = cs.toArray) : ∃ v' w', Ex Tryd.prog N ρ w (.alloc 51) ty v' w' ∧ ∃ g, v' = .pointer (some ⟨g, 0, none⟩) ∧ St H w' (obj g 51 cs :: L) := by
  obtain ⟨i0, e1, e2, _, _⟩ := inf51
  exact m_alloc e1 e2 h hv
theorem sc52 : scalarT Tryd.prog 52 = true := by kernel_rfl
theorem ld52 {N : Nat} {ρ : Nat → Value} {w : World} {ty : Nat} {x : Operand} {ad : Addr} {v : Value} (hx : Ev N ρ x (.pointer (some ad))) (hc : w.cell? ad = some v) : Ex Tryd.prog N ρ w (.load 52 x) ty v w := x_load sc52 hx hc
theorem sto52 {N : Nat} {ρ : Nat → Value} {H : Hp} {w : World} {L : List Res} {g T ty i : Nat} {x y : Operand} {cs cs' : List Value} {v : Value} (h : St H w (obj g T cs :: L)) (hx : Ev N ρ x (.pointer (some ⟨g, i, none⟩))) (hy : Ev N ρ y v) (hsz : v.cells.size = 1) (hl : i + 1 ≤ cs.length) (h1 : ∀ u ∈ v.cells.toList, u.oneCell' = true) (hsp : splice cs i v.cells.toList = cs') : ∃ w', Ex0 Tryd.prog N ρ w (.store 52 x y) ty w' ∧ St H w' (obj g T cs' :: L) := by
  obtain ⟨i0, e1, _, e3, _⟩ := inf52
  exact m_store e1 h hx hy (by rw [e3]; exact hsz) (by rw [e3]; exact hl) h1 hsp
theorem stor52 {N : Nat} {ρ : Nat → Value} {H : Hp} {w : World} {L : List Res} {g e size n cap ty i : Nat} {x y : Operand} {xs xs' : List Value} {v u : Value} (h : St H w (row e size v n xs :: L)) (hv : v = .slice (some ⟨g, 0, none⟩) n cap) (hx : Ev N ρ x (.pointer (some ⟨g, i, none⟩))) (hy : Ev N ρ y u) (hsz : u.cells.size = 1) (hl : i + 1 ≤ xs.length) (h1 : ∀ u' ∈ u.cells.toList, u'.oneCell' = true) (hsp : splice xs i u.cells.toList = xs') : ∃ w', Ex0 Tryd.prog N ρ w (.store 52 x y) ty w' ∧ St H w' (row e size v n xs' :: L) := by
  obtain ⟨i0, e1, _, e3, _⟩ := inf52
  exact m_storeRow e1 h hv hx hy (by rw [e3]; exact hsz) (by rw [e3]; exact hl) h1 hsp
theorem al52 {N : Nat} {ρ : Nat → Value} {H : Hp} {w : World} {L : List Res} {ty : Nat} {cs : List Value} (h : St H w L) (hv : (.slice none 0 0 : Value).cells = cs.toArray) : ∃ v' w', Ex Tryd.prog N ρ w (.alloc 52) ty v' w' ∧ ∃ g, v' = .pointer (some ⟨g, 0, none⟩) ∧ St H w' (obj g 52 cs :: L) := by
  obtain ⟨i0, e1, e2, _, _⟩ := inf52
  exact m_alloc e1 e2 h hv
theorem ag53 : aggT Tryd.prog 53 = true := by kernel_rfl
theorem ld53 {N : Nat} {ρ : Nat → Value} {w : World} {ty : Nat} {x : Operand} {ad : Addr} {cs : List Value} (hx : Ev N ρ x (.pointer (some ad))) (hc : At w ad cs) (hl : cs.length = 16) : Ex Tryd.prog N ρ w (.load 53 x) ty (.agg cs.toArray) w := by
  obtain ⟨i0, h1, _, h3, _⟩ := inf53
  exact x_loadA ag53 h1 hx hc (by rw [h3]; exact hl)
theorem lv53 {w : World} {ad : Addr} {cs : List Value} (hc : At w ad cs) (hl : cs.length = 16) : (loadVar 53 ad).run Tryd.prog w = .ok (.agg cs.toArray) w := by
  obtain ⟨i0, h1, _, h3, _⟩ := inf53
  exact run_loadVar_t ag53 h1 hc (by rw [h3]; exact hl)
theorem sto53 {N : Nat} {ρ : Nat → Value} {H : Hp} {w : World} {L : List Res} {g T ty i : Nat} {x y : Operand} {cs cs' : List Value} {v : Value} (h : St H w (obj g T cs :: L)) (hx : Ev N ρ x (.pointer (some ⟨g, i, none⟩))) (hy : Ev N ρ y v) (hsz : v.cells.size = 16) (hl : i + 16 ≤ cs.length) (h1 : ∀ u ∈ v.cells.toList, u.oneCell' = true) (hsp : splice cs i v.cells.toList = cs') : ∃ w', Ex0 Tryd.prog N ρ w (.store 53 x y) ty w' ∧ St H w' (obj g T cs' :: L) := by
  obtain ⟨i0, e1, _, e3, _⟩ := inf53
  exact m_store e1 h hx hy (by rw [e3]; exact hsz) (by rw [e3]; exact hl) h1 hsp
theorem stor53 {N : Nat} {ρ : Nat → Value} {H : Hp} {w : World} {L : List Res} {g e size n cap ty i : Nat} {x y : Operand} {xs xs' : List Value} {v u : Value} (h : St H w (row e size v n xs :: L)) (hv : v = .slice (some ⟨g, 0, none⟩) n cap) (hx : Ev N ρ x (.pointer (some ⟨g, i, none⟩))) (hy : Ev N ρ y u) (hsz : u.cells.size = 16) (hl : i + 16 ≤ xs.length) (h1 : ∀ u' ∈ u.cells.toList, u'.oneCell' = true) (hsp : splice xs i u.cells.toList = xs') : ∃ w', Ex0 Tryd.prog N ρ w (.store 53 x y) ty w' ∧ St H w' (row e size v n xs' :: L) := by
  obtain ⟨i0, e1, _, e3, _⟩ := inf53
  exact m_storeRow e1 h hv hx hy (by rw [e3]; exact hsz) (by rw [e3]; exact hl) h1 hsp
theorem al53 {N : Nat} {ρ : Nat → Value} {H : Hp} {w : World} {L : List Res} {ty : Nat} {cs : List Value} (h : St H w L) (hv : (.agg #[.bool false, .bool false, .bool false, .bool false, .bool false, .bool false, .bool false, .bool false, .bool false, .bool false, .bool false, .bool false, .bool false, .bool false, .bool false, .bool false] : Value).cells = cs.toArray) : ∃ v' w', Ex Tryd.prog N ρ w (.alloc 53) ty v' w' ∧ ∃ g, v' = .pointer (some ⟨g, 0, none⟩) ∧ St H w' (obj g 53 cs :: L) := by
  obtain ⟨i0, e1, e2, _, _⟩ := inf53
  exact m_alloc e1 e2 h hv
theorem ag54 : aggT Tryd.prog 54 = true := by kernel_rfl
theorem ld54 {N : Nat} {ρ : Nat → Value} {w : World} {ty : Nat} {x : Operand} {ad : Addr} {cs : List Value} (hx : Ev N ρ x (.pointer (some ad))) (hc : At w ad cs) (hl : cs.length = 256) : Ex Tryd.prog N ρ w (.load 54 x) ty (.agg cs.toArray) w := by
  obtain ⟨i0, h1, _, h3, _⟩ := inf54
  exact x_loadA ag54 h1 hx hc (by rw [h3]; exact hl)
theorem lv54 {w : World} {ad : Addr} {cs : List Value} (hc : At w ad cs) (hl : cs.length = 256) : (loadVar 54 ad).run Tryd.prog w = .ok (.agg cs.toArray) w := by
  obtain ⟨i0, h1, _, h3, _⟩ := inf54
  exact run_loadVar_t ag54 h1 hc (by rw [h3]; exact hl)
theorem sto54 {N : Nat} {ρ : Nat → Value} {H : Hp} {w : World} {L : List Res} {g T ty i : Nat} {x y : Operand} {cs cs' : List Value} {v : Value} (h : St H w (obj g T cs :: L)) (hx : Ev N ρ x (.pointer (some ⟨g, i, none⟩))) (hy : Ev N ρ y v) (hsz : v.cells.size = 256) (hl : i + 256 ≤ cs.length) (h1 : ∀ u ∈ v.cells.toList, u.oneCell' = true) (hsp : splice cs i v.cells.toList = cs') : ∃ w', Ex0 Tryd.prog N ρ w (.store 54 x y) ty w' ∧ St H w' (obj g T cs' :: L) := by
  obtain ⟨i0, e1, _, e3, _⟩ := inf54
  exact m_store e1 h hx hy (by rw [e3]; exact hsz) (by rw [e3]; exact hl) h1 hsp
theorem stor54 {N : Nat} {ρ : Nat → Value} {H : Hp} {w : World} {L : List Res} {g e size n cap ty i : Nat} {x y : Operand} {xs xs' : List Value} {v u : Value} (h : St H w (row e size v n xs :: L)) (hv : v = .slice (some ⟨g, 0, none⟩) n cap) (hx : Ev N ρ x (.pointer (some ⟨g, i, none⟩))) (hy : Ev N ρ y u) (hsz : u.cells.size = 256) (hl : i + 256 ≤ xs.length) (h1 : ∀ u' ∈ u.cells.toList, u'.oneCell' = true) (hsp : splice xs i u.cells.toList = xs') : ∃ w', Ex0 Tryd.prog N ρ w (.store 54 x y) ty w' ∧ St H w' (row e size v n xs' :: L) := by
  obtain ⟨i0, e1, _, e3, _⟩ := inf54
  exact m_storeRow e1 h hv hx hy (by rw [e3]; exact hsz) (by rw [e3]; exact hl) h1 hsp
theorem al54 {N : Nat} {ρ : Nat → Value} {H : Hp} {w : World} {L : List Res} {ty : Nat} {cs : List Value} (h : St H w L) (hv : (.agg #[.bool false, .bool false, .bool false, .bool false, .bool false, .bool false, .bool false, .bool false, .bool false, .bool false, .bool false, .bool false, .bool false, .bool false, .bool false, .bool false, .bool false, .bool false, .bool false, .bool false, .bool false, .bool false, .bool false, .bool false, .bool false, .bool false, .bool false, .bool false, .bool false, .bool false, .bool false, .bool false, .bool false, .bool false, .bool false, .bool false, .bool false, .bool false, .bool false, .bool false, .bool false, .bool false, .bool false, .bool false, .bool false, .bool false, .bool false, .bool false, .bool false, .bool false, .bool false, .bool false, .bool false, .bool false, .bool false, .bool false, .bool false, .bool false, .bool false, .bool false, .bool false, .bool false, .bool false, .bool false, .bool false, .bool false, .bool false, .bool false, .bool false, .bool false, .bool false, .bool false, .bool false, .bool false, .bool false, .bool false, .bool false, .bool false, .bool false, .bool false, .bool false, .bool false, .bool false, .bool false, .bool false, .bool false, .bool false, .bool false, .bool false, .bool false, .bool false, .bool false, .bool false, .bool false, .bool false, .bool false, .bool false, .bool false, .bool false, .bool false, .bool false, .bool false, .bool false, .bool false, .bool false, .bool false, .bool false, .bool false, .bool false, .bool false, .bool false, .bool false, .bool false, .bool false, .bool false, .bool false, .bool false, .bool false, .bool false, .bool false, .bool false, .bool false, .bool false, .bool false, .bool false, .bool false, .bool false, .bool false, .bool false, .bool false, .bool false, .bool false, .bool false, .bool false, .bool false, .bool false, .bool false, .bool false, .bool false, .bool false, .bool false, .bool false, .bool false, .bool false, .bool false, .bool false, .bool false, .bool false, .bool false, .bool false, .bool false, .bool false, .bool false, .bool false, .bool false, .bool false, .bool false, .bool false, .bool false, .bool false, .bool false, .bool false, .bool false, .bool false, .bool false, .bool false, .bool false, .bool false, .bool false, .bool false, .bool false, .bool false, .bool false, .bool false, .bool false, .bool false, .bool false, .bool false, .bool false, .bool false, .bool false, .bool false, .bool false, .bool false, .bool false, .bool false, .bool false, .bool false, .bool false, .bool false, .bool false, .bool false, .bool false, .bool false, .bool false, .bool false, .bool false, .bool false, .bool false, .bool false, .bool false, .bool false, .bool false, .bool false, .bool false, .bool false, .bool false, .bool false, .bool false, .bool false, .bool false, .bool false, .bool false, .bool false, .bool false, .bool false, .bool false, .bool false, .bool false, .bool false, .bool false, .bool false, .bool false, .bool false, .bool false, .bool false, .bool false, .bool false, .bool false, .bool false, .bool false, .bool false, .bool false, .bool false, .bool false, .bool false, .bool false, .bool false, .bool false, .bool false, .bool false, .bool false, .bool false, .bool false, .bool false, .bool false, .bool false, .bool false, .bool false, .bool false, .bool false, .bool false, .bool false, .bool false, .bool false, .bool false] : Value).cells = cs.toArray) : ∃ v' w', Ex Tryd.prog N ρ w (.alloc 54) ty v' w' ∧ ∃ g, v' = .pointer (some ⟨g, 0, none⟩) ∧ St H w' (obj g 54 cs :: L) := by
  obtain ⟨i0, e1, e2, _, _⟩ := inf54
  exact m_alloc e1 e2 h hv
theorem ag55 : aggT Tryd.prog 55 = true := by kernel_rfl
theorem ld55 {N : Nat} {ρ : Nat → Value} {w : World} {ty : Nat} {x : Operand} {ad : Addr} {cs : List Value} (hx : Ev N ρ x (.pointer (some ad))) (hc : At w ad cs) (hl : cs.length = 260) : Ex Tryd.prog N ρ w (.load 55 x) ty (.agg cs.toArray) w := by
  obtain ⟨i0, h1, _, h3, _⟩ := inf55
  exact x_loadA ag55 h1 hx hc (by rw [h3]; exact hl)
theorem lv55 {w : World} {ad : Addr} {cs : List Value} (hc : At w ad cs) (hl : cs.length = 260) : (loadVar 55 ad).run Tryd.prog w = .ok (.agg cs.toArray) w := by
  obtain ⟨i0, h1, _, h3, _⟩ := inf55
  exact run_loadVar_t ag55 h1 hc (by rw [h3]; exact hl)
theorem sto55 {N : Nat} {ρ : Nat → Value} {H : Hp} {w : World} {L : List Res} {g T ty i : Nat} {x y : Operand} {cs cs' : List Value} {v : Value} (h : St H w (obj g T cs :: L)) (hx : Ev N ρ x (.pointer (some ⟨g, i, none⟩))) (hy : Ev N ρ y v) (hsz : v.cells.size = 260) (hl : i + 260 ≤ cs.length) (h1 : ∀ u ∈ v.cells.toList, u.oneCell' = true) (hsp : splice cs i v.cells.toList = cs') : ∃ w', Ex0 Tryd.prog N ρ w (.store 55 x y) ty w' ∧ St H w' (obj g T cs' :: L) := by
  obtain ⟨i0, e1, _, e3, _⟩ := inf55
  exact m_store e1 h hx hy (by rw [e3]; exact hsz) (by rw [e3]; exact hl) h1 hsp
theorem stor55 {N : Nat} {ρ : Nat → Value} {H : Hp} {w : World} {L : List Res} {g e size n cap ty i : Nat} {x y : Operand} {xs xs' : List Value} {v u : Value} (h : St H w (row e size v n xs :: L)) (hv : v = .slice (some ⟨g, 0, none⟩) n cap) (hx : Ev N ρ x (.pointer (some ⟨g, i, none⟩))) (hy : Ev N ρ y u) (hsz : u.cells.size = 260) (hl : i + 260 ≤ xs.length) (h1 : ∀ u' ∈ u.cells.toList, u'.oneCell' = true) (hsp : splice xs i u.cells.toList = xs') : ∃ w', Ex0 Tryd.prog N ρ w (.store 55 x y) ty w' ∧ St H w' (row e size v n xs' :: L) := by
  obtain ⟨i0, e1, _, e3, _⟩ := inf55
  exact m_storeRow e1 h hv hx hy (by rw [e3]; exact hsz) (by rw [e3]; exact hl) h1 hsp
theorem al55 {N : Nat} {ρ : Nat → Value} {H : Hp} {w : World} {L : List Res} {ty : Nat} {cs : List Value} (h : St H w L) (hv : (.agg #[.int .i64 0, .slice none 0 0, .slice none 0 0, .bool false, .bool false, .bool false, .bool false, .bool false, .bool false, .bool false, .bool false, .bool false, .bool false, .bool false, .bool false, .bool false, .bool false, .bool false, .bool false, .bool false, .bool false, .bool false, .bool false, .bool false, .bool false, .bool false, .bool false, .bool false, .bool false, .bool false, .bool false, .bool false, .bool false, .bool false, .bool false, .bool false, .bool false, .bool false, .bool false, .bool false, .bool false, .bool false, .bool false, .bool false, .bool false, .bool false, .bool false, .bool false, .bool false, .bool false, .bool false, .bool false, .bool false, .bool false, .bool false, .bool false, .bool false, .bool false, .bool false, .bool false, .bool false, .bool false, .bool false, .bool false, .bool false, .bool false, .bool false, .bool false, .bool false, .bool false, .bool false, .bool false, .bool false, .bool false, .bool false, .bool false, .bool false, .bool false, .bool false, .bool false, .bool false, .bool false, .bool false, .bool false, .bool false, .bool false, .bool false, .bool false, .bool false, .bool false, .bool false, .bool false, .bool false, .bool false, .bool false, .bool false, .bool false, .bool false, .bool false, .bool false, .bool false, .bool false, .bool false, .bool false, .bool false, .bool false, .bool false, .bool false, .bool false, .bool false, .bool false, .bool false, .bool false, .bool false, .bool false, .bool false, .bool false, .bool false, .bool false, .bool false, .bool false, .bool false, .bool false, .bool false, .bool false, .bool false, .bool false, .bool false, .bool false, .bool false, .bool false, .bool false, .bool false, .bool false, .bool false, .bool false, .bool false, .bool false, .bool false, .bool false, .bool false, .bool false, .bool false, .bool false, .bool false, .bool false, .bool false, .bool false, .bool false, .bool false, .bool false, .bool false, .bool false, .bool false, .bool false, .bool false, .bool false, .bool false, .bool false, .bool false, .bool false, .bool false, .bool false, .bool false, .bool false, .bool false, .bool false, .bool false, .bool false, .bool false, .bool false, .bool false, .bool false, .bool false, .bool false, .bool false, .bool false, .bool false, .bool false, .bool false, .bool false, .bool false, .bool false, .bool false, .bool false, .bool false, .bool false, .bool false, .bool false, .bool false, .bool false, .bool false, .bool false, .bool false, .bool false, .bool false, .bool false, .bool false, .bool false, .bool false, .bool false, .bool false, .bool false, .bool false, .bool false, .bool false, .bool false, .bool false, .bool false, .bool false, .bool false, .bool false, .bool false, .bool false, .bool false, .bool false, .bool false, .bool false, .bool false, .bool false, .bool false, .bool false, .bool false, .bool false, .bool false, .bool false, .bool false, .bool false, .bool false, .bool false, .bool false, .bool false, .bool false, .bool false, .bool false, .bool false, .bool false, .bool false, .bool false, .bool false, .bool false, .bool false, .bool false, .bool false, .bool false, .bool false, .bool false, .bool false, .bool false, .bool false, .bool false, .bool false, .bool false, .bool false, .bool false, .bool false, .bool false, .bool false, .bool false, .int .i64 0] : Value).cells = cs.toArray) : ∃ v' w', Ex Tryd.prog N ρ w (.alloc 55) ty v' w' ∧ ∃ g, v' = .pointer (some ⟨g, 0, none⟩) ∧ St H w' (obj g 55 cs :: L) := by
  obtain ⟨i0, e1, e2, _, _⟩ := inf55
  exact m_alloc e1 e2 h hv
theorem ag56 : aggT Tryd.prog 56 = true := by kernel_rfl
theorem ld56 {N : Nat} {ρ : Nat → Value} {w : World} {ty : Nat} {x : Operand} {ad : Addr} {cs : List Value} (hx : Ev N ρ x (.pointer (some ad))) (hc : At w ad cs) (hl : cs.length = 260) : Ex Tryd.prog N ρ w (.load 56 x) ty (.agg cs.toArray) w := by
  obtain ⟨i0, h1, _, h3, _⟩ := inf56
  exact x_loadA ag56 h1 hx hc (by rw [h3]; exact hl)
theorem lv56 {w : World} {ad : Addr} {cs : List Value} (hc : At w ad cs) (hl : cs.length = 260) : (loadVar 56 ad).run Tryd.prog w = .ok (.agg cs.toArray) w := by
  obtain ⟨i0, h1, _, h3, _⟩ := inf56
  exact run_loadVar_t ag56 h1 hc (by rw [h3]; exact hl)
theorem sto56 {N : Nat} {ρ : Nat → Value} {H : Hp} {w : World} {L : List Res} {g T ty i : Nat} {x y : Operand} {cs cs' : List Value} {v : Value} (h : St H w (obj g T cs :: L)) (hx : Ev N ρ x (.pointer (some ⟨g, i, none⟩))) (hy : Ev N ρ y v) (hsz : v.cells.size = 260) (hl : i + 260 ≤ cs.length) (h1 : ∀ u ∈ v.cells.toList, u.oneCell' = true) (hsp : splice cs i v.cells.toList = cs') : ∃ w', Ex0 Tryd.prog N ρ w (.store 56 x y) ty w' ∧ St H w' (obj g T cs' :: L) := by
  obtain ⟨i0, e1, _, e3, _⟩ := inf56
  exact m_store e1 h hx hy (by rw [e3]; exact hsz) (by rw [e3]; exact hl) h1 hsp
theorem stor56 {N : Nat} {ρ : Nat → Value} {H : Hp} {w : World} {L : List Res} {g e size n cap ty i : Nat} {x y : Operand} {xs xs' : List Value} {v u : Value} (h : St H w (row e size v n xs :: L)) (hv : v = .slice (some ⟨g, 0, none⟩) n cap) (hx : Ev N ρ x (.pointer (some ⟨g, i, none⟩))) (hy : Ev N ρ y u) (hsz : u.cells.size = 260) (hl : i + 260 ≤ xs.length) (h1 : ∀ u' ∈ u.cells.toList, u'.oneCell' = true) (hsp : splice xs i u.cells.toList = xs') : ∃ w', Ex0 Tryd.prog N ρ w (.store 56 x y) ty w' ∧ St H w' (row e size v n xs' :: L) := by
  obtain ⟨i0, e1, _, e3, _⟩ := inf56
  exact m_storeRow e1 h hv hx hy (by rw [e3]; exact hsz) (by rw [e3]; exact hl) h1 hsp
theorem al56 {N : Nat} {ρ : Nat → Value} {H : Hp} {w : World} {L : List Res} {ty : Nat} {cs : List Value} (h : St H w L) (hv : (.agg #[.int .i64 0, .slice none 0 0, .slice none 0 0, .bool false, .bool false, .bool false, .bool false, .bool false, .bool false, .bool false, .bool false, .bool false, .bool false, .bool false, .bool false, .bool false, .bool false, .bool false, .bool false, .bool false, .bool false, .bool false, .bool false, .bool false, .bool false, .bool false, .bool false, .bool false, .bool false, .bool false, .bool false, .bool false, .bool false, .bool false, .bool false, .bool false, .bool false, .bool false, .bool false, .bool false, .bool false, .bool false, .bool false, .bool false, .bool false, .bool false, .bool false, .bool false, .bool false, .bool false, .bool false, .bool false, .bool false, .bool false, .bool false, .bool false, .bool false, .bool false, .bool false, .bool false, .bool false, .bool false, .bool false, .bool false, .bool false, .bool false, .bool false, .bool false, .bool false, .bool false, .bool false, .bool false, .bool false, .bool false, .bool false, .bool false, .bool false, .bool false, .bool false, .bool false, .bool false, .bool false, .bool false, .bool false, .bool false, .bool false, .bool false, .bool false, .bool false, .bool false, .bool false, .bool false, .bool false, .bool false, .bool false, .bool false, .bool false, .bool false, .bool false, .bool false, .bool false, .bool false, .bool false, .bool false, .bool false, .bool false, .bool false, .bool false, .bool false, .bool false, .bool false, .bool false, .bool false, .bool false, .bool false, .bool false, .bool false, .bool false, .bool false, .bool false, .bool false, .bool false, .bool false, .bool false, .bool false, .bool false, .bool false, .bool false, .bool false, .bool false, .bool false, .bool false, .bool false, .bool false, .bool false, .bool false, .bool false, .bool false, .bool false, .bool false, .bool false, .bool false, .bool false, .bool false, .bool false, .bool false, .bool false, .bool false, .bool false, .bool false, .bool false, .bool false, .bool false, .bool false, .bool false, .bool false, .bool false, .bool false, .bool false, .bool false, .bool false, .bool false, .bool false, .bool false, .bool false, .bool false, .bool false, .bool false, .bool false, .bool false, .bool false, .bool false, .bool false, .bool false, .bool false, .bool false, .bool false, .bool false, .bool false, .bool false, .bool false, .bool false, .bool false, .bool false, .bool false, .bool false, .bool false, .bool false, .bool false, .bool false, .bool false, .bool false, .bool false, .bool false, .bool false, .bool false, .bool false, .bool false, .bool false, .bool false, .bool false, .bool false, .bool false, .bool false, .bool false, .bool false, .bool false, .bool false, .bool false, .bool false, .bool false, .bool false, .bool false, .bool false, .bool false, .bool false, .bool false, .bool false, .bool false, .bool false, .bool false, .bool false, .bool false, .bool false, .bool false, .bool false, .bool false, .bool false, .bool false, .bool false, .bool false, .bool false, .bool false, .bool false, .bool false, .bool false, .bool false, .bool false, .bool false, .bool false, .bool false, .bool false, .bool false, .bool false, .bool false, .bool false, .bool false, .bool false, .bool false, .bool false, .bool false, .bool false, .bool false, .bool false, .bool false, .bool false, .bool false, .bool false, .bool false, .int .i64 0] : Value).cells = cs.toArray) : ∃ v' w', Ex Tryd.prog N ρ w (.alloc 56) ty v' w' ∧ ∃ g, v' = .pointer (some ⟨g, 0, none⟩) ∧ St H w' (obj g 56 cs :: L) := by
  obtain ⟨i0, e1, e2, _, _⟩ := inf56
  exact m_alloc e1 e2 h hv
theorem ag57 : aggT Tryd.prog 57 = true := by kernel_rfl
theorem ld57 {N : Nat} {ρ : Nat → Value} {w : World} {ty : Nat} {x : Operand} {ad : Addr} {cs : List Value} (hx : Ev N ρ x (.pointer (some ad))) (hc : At w ad cs) (hl : cs.length = 4) : Ex Tryd.prog N ρ w (.load 57 x) ty (.agg cs.toArray) w := by
  obtain ⟨i0, h1, _, h3, _⟩ := inf57
  exact x_loadA ag57 h1 hx hc (by rw [h3]; exact hl)
theorem lv57 {w : World} {ad : Addr} {cs : List Value} (hc : At w ad cs) (hl : cs.length = 4) : (loadVar 57 ad).run Tryd.prog w = .ok (.agg cs.toArray) w := by
  obtain ⟨i0, h1, _, h3, _⟩ := inf57
  exact run_loadVar_t ag57 h1 hc (by rw [h3]; exact hl)
theorem sto57 {N : Nat} {ρ : Nat → Value} {H : Hp} {w : World} {L : List Res} {g T ty i : Nat} {x y : Operand} {cs cs' : List Value} {v : Value} (h : St H w (obj g T cs :: L)) (hx : Ev N ρ x (.pointer (some ⟨g, i, none⟩))) (hy : Ev N ρ y v) (hsz : v.cells.size = 4) (hl : i + 4 ≤ cs.length) (h1 : ∀ u ∈ v.cells.toList, u.oneCell' = true) (hsp : splice cs i v.cells.toList = cs') : ∃ w', Ex0 Tryd.prog N ρ w (.store 57 x y) ty w' ∧ St H w' (obj g T cs' :: L) := by
  obtain ⟨i0, e1, _, e3, _⟩ := inf57
  exact m_store e1 h hx hy (by rw [e3]; exact hsz) (by rw [e3]; exact hl) h1 hsp
theorem stor57 {N : Nat} {ρ : Nat → Value} {H : Hp} {w : World} {L : List Res} {g e size n cap ty i : Nat} {x y : Operand} {xs xs' : List Value} {v u : Value} (h : St H w (row e size v n xs :: L)) (hv : v = .slice (some ⟨g, 0, none⟩) n cap) (hx : Ev N ρ x (.pointer (some ⟨g, i, none⟩))) (hy : Ev N ρ y u) (hsz : u.cells.size = 4) (hl : i + 4 ≤ xs.length) (h1 : ∀ u' ∈ u.cells.toList, u'.oneCell' = true) (hsp : splice xs i u.cells.toList = xs') : ∃ w', Ex0 Tryd.prog N ρ w (.store 57 x y) ty w' ∧ St H w' (row e size v n xs' :: L) := by
  obtain ⟨i0, e1, _, e3, _⟩ := inf57
  exact m_storeRow e1 h hv hx hy (by rw [e3]; exact hsz) (by rw [e3]; exact hl) h1 hsp
theorem al57 {N : Nat} {ρ : Nat → Value} {H : Hp} {w : World} {L : List Res} {ty : Nat} {cs : List Value} (h : St H w L) (hv : (.agg #[.int .u8 0, .int .i64 0, .int .i64 0, .slice none 0 0] : Value).cells = cs.toArray) : ∃ v' w', Ex Tryd.prog N ρ w (.alloc 57) ty v' w' ∧ ∃ g, v' = .pointer (some ⟨g, 0, none⟩) ∧ St H w' (obj g 57 cs :: L) := by
  obtain ⟨i0, e1, e2, _, _⟩ := inf57
  exact m_alloc e1 e2 h hv
theorem ag58 : aggT Tryd.prog 58 = true := by kernel_rfl
theorem ld58 {N : Nat} {ρ : Nat → Value} {w : World} {ty : Nat} {x : Operand} {ad : Addr} {cs : List Value} (hx : Ev N ρ x (.pointer (some ad))) (hc : At w ad cs) (hl : cs.length = 4) : Ex Tryd.prog N ρ w (.load 58 x) ty (.agg cs.toArray) w := by
  obtain ⟨i0, h1, _, h3, _⟩ := inf58
  exact x_loadA ag58 h1 hx hc (by rw [h3]; exact hl)
theorem lv58 {w : World} {ad : Addr} {cs : List Value} (hc : At w ad cs) (hl : cs.length = 4) : (loadVar 58 ad).run Tryd.prog w = .ok (.agg cs.toArray) w := by
  obtain ⟨i0, h1, _, h3, _⟩ := inf58
  exact run_loadVar_t ag58 h1 hc (by rw [h3]; exact hl)
theorem sto58 {N : Nat} {ρ : Nat → Value} {H : Hp} {w : World} {L : List Res} {g T ty i : Nat} {x y : Operand} {cs cs' : List Value} {v : Value} (h : St H w (obj g T cs :: L)) (hx : Ev N ρ x (.pointer (some ⟨g, i, none⟩))) (hy : Ev N ρ y v) (hsz : v.cells.size = 4) (hl : i + 4 ≤ cs.length) (h1 : ∀ u ∈ v.cells.toList, u.oneCell' = true) (hsp : splice cs i v.cells.toList = cs') : ∃ w', Ex0 Tryd.prog N ρ w (.store 58 x y) ty w' ∧ St H w' (obj g T cs' :: L) := by
  obtain ⟨i0, e1, _, e3, _⟩ := inf58
  exact m_store e1 h hx hy (by rw [e3]; exact hsz) (by rw [e3]; exact hl) h1 hsp
theorem stor58 {N : Nat} {ρ : Nat → Value} {H : Hp} {w : World} {L : List Res} {g e size n cap ty i : Nat} {x y : Operand} {xs xs' : List Value} {v u : Value} (h : St H w (row e size v n xs :: L)) (hv : v = .slice (some ⟨g, 0, none⟩) n cap) (hx : Ev N ρ x (.pointer (some ⟨g, i, none⟩))) (hy : Ev N ρ y u) (hsz : u.cells.size = 4) (hl : i + 4 ≤ xs.length) (h1 : ∀ u' ∈ u.cells.toList, u'.oneCell' = true) (hsp : splice xs i u.cells.toList = xs') : ∃ w', Ex0 Tryd.prog N ρ w (.store 58 x y) ty w' ∧ St H w' (row e size v n xs' :: L) := by
  obtain ⟨i0, e1, _, e3, _⟩ := inf58
  exact m_storeRow e1 h hv hx hy (by rw [e3]; exact hsz) (by rw [e3]; exact hl) h1 hsp
theorem al58 {N : Nat} {ρ : Nat → Value} {H : Hp} {w : World} {L : List Res} {ty : Nat} {cs : List Value} (h : St H w L) (hv : (.agg #[.int .u8 0, .int .i64 0, .int .i64 0, .slice none 0 0] : Value).cells = cs.toArray) : ∃ v' w', Ex Tryd.prog N ρ w (.alloc 58) ty v' w' ∧ ∃ g, v' = .pointer (some ⟨g, 0, none⟩) ∧ St H w' (obj g 58 cs :: L) := by
  obtain ⟨i0, e1, e2, _, _⟩ := inf58
  exact m_alloc e1 e2 h hv
theorem ag62 : aggT Tryd.prog 62 = true := by kernel_rfl
theorem ld62 {N : Nat} {ρ : Nat → Value} {w : World} {ty : Nat} {x : Operand} {ad : Addr} {cs : List Value} (hx : Ev N ρ x (.pointer (some ad))) (hc : At w ad cs) (hl : cs.length = 16) : Ex Tryd.prog N ρ w (.load 62 x) ty (.agg cs.toArray) w := by
  obtain ⟨i0, h1, _, h3, _⟩ := inf62
  exact x_loadA ag62 h1 hx hc (by rw [h3]; exact hl)
theorem lv62 {w : World} {ad : Addr} {cs : List Value} (hc : At w ad cs) (hl : cs.length = 16) : (loadVar 62 ad).run Tryd.prog w = .ok (.agg cs.toArray) w := by
  obtain ⟨i0, h1, _, h3, _⟩ := inf62
  exact run_loadVar_t ag62 h1 hc (by rw [h3]; exact hl)
theorem sto62 {N : Nat} {ρ : Nat → Value} {H : Hp} {w : World} {L : List Res} {g T ty i : Nat} {x y : Operand} {cs cs' : List Value} {v : Value} (h : St H w (obj g T cs :: L)) (hx : Ev N ρ x (.pointer (some ⟨g, i, none⟩))) (hy : Ev N ρ y v) (hsz : v.cells.size = 16) (hl : i + 16 ≤ cs.length) (h1 : ∀ u ∈ v.cells.toList, u.oneCell' = true) (hsp : splice cs i v.cells.toList = cs') : ∃ w', Ex0 Tryd.prog N ρ w (.store 62 x y) ty w' ∧ St H w' (obj g T cs' :: L) := by
  obtain ⟨i0, e1, _, e3, _⟩ := inf62
  exact m_store e1 h hx hy (by rw [e3]; exact hsz) (by rw [e3]; exact hl) h1 hsp
theorem stor62 {N : Nat} {ρ : Nat → Value} {H : Hp} {w : World} {L : List Res} {g e size n cap ty i : Nat} {x y : Operand} {xs xs' : List Value} {v u : Value} (h : St H w (row e size v n xs :: L)) (hv : v = .slice (some ⟨g, 0, none⟩) n cap) (hx : Ev N ρ x (.pointer (some ⟨g, i, none⟩))) (hy : Ev N ρ y u) (hsz : u.cells.size = 16) (hl : i + 16 ≤ xs.length) (h1 : ∀ u' ∈ u.cells.toList, u'.oneCell' = true) (hsp : splice xs i u.cells.toList = xs') : ∃ w', Ex0 Tryd.prog N ρ w (.store 62 x y) ty w' ∧ St H w' (row e size v n xs' :: L) := by
  obtain ⟨i0, e1, _, e3, _⟩ := inf62
  exact m_storeRow e1 h hv hx hy (by rw [e3]; exact hsz) (by rw [e3]; exact hl) h1 hsp
theorem al62 {N : Nat} {ρ : Nat → Value} {H : Hp} {w : World} {L : List Res} {ty : Nat} {cs : List Value} (h : St H w L) (hv : (.agg #[.int .u16 0, .int .u16 0, .int .u16 0, .int .u16 0, .int .u16 0, .int .u16 0, .int .u16 0, .int .u16 0, .int .u16 0, .int .u16 0, .int .u16 0, .int .u16 0, .int .u16 0, .int .u16 0, .int .u16 0, .int .u16 0] : Value).cells = cs.toArray) : ∃ v' w', Ex Tryd.prog N ρ w (.alloc 62) ty v' w' ∧ ∃ g, v' = .pointer (some ⟨g, 0, none⟩) ∧ St H w' (obj g 62 cs :: L) := by
  obtain ⟨i0, e1, e2, _, _⟩ := inf62
  exact m_alloc e1 e2 h hv
theorem ag63 : aggT Tryd.prog 63 = true := by kernel_rfl
theorem ld63 {N : Nat} {ρ : Nat → Value} {w : World} {ty : Nat} {x : Operand} {ad : Addr} {cs : List Value} (hx : Ev N ρ x (.pointer (some ad))) (hc : At w ad cs) (hl : cs.length = 20) : Ex Tryd.prog N ρ w (.load 63 x) ty (.agg cs.toArray) w := by
  obtain ⟨i0, h1, _, h3, _⟩ := inf63
  exact x_loadA ag63 h1 hx hc (by rw [h3]; exact hl)
theorem lv63 {w : World} {ad : Addr} {cs : List Value} (hc : At w ad cs) (hl : cs.length = 20) : (loadVar 63 ad).run Tryd.prog w = .ok (.agg cs.toArray) w := by
  obtain ⟨i0, h1, _, h3, _⟩ := inf63
  exact run_loadVar_t ag63 h1 hc (by rw [h3]; exact hl)
theorem sto63 {N : Nat} {ρ : Nat → Value} {H : Hp} {w : World} {L : List Res} {g T ty i : Nat} {x y : Operand} {cs cs' : List Value} {v : Value} (h : St H w (obj g T cs :: L)) (hx : Ev N ρ x (.pointer (some ⟨g, i, none⟩))) (hy : Ev N ρ y v) (hsz : v.cells.size = 20) (hl : i + 20 ≤ cs.length) (h1 : ∀ u ∈ v.cells.toList, u.oneCell' = true) (hsp : splice cs i v.cells.toList = cs') : ∃ w', Ex0 Tryd.prog N ρ w (.store 63 x y) ty w' ∧ St H w' (obj g T cs' :: L) := by
  obtain ⟨i0, e1, _, e3, _⟩ := inf63
  exact m_store e1 h hx hy (by rw [e3]; exact hsz) (by rw [e3]; exact hl) h1 hsp
theorem stor63 {N : Nat} {ρ : Nat → Value} {H : Hp} {w : World} {L : List Res} {g e size n cap ty i : Nat} {x y : Operand} {xs xs' : List Value} {v u : Value} (h : St H w (row e size v n xs :: L)) (hv : v = .slice (some ⟨g, 0, none⟩) n cap) (hx : Ev N ρ x (.pointer (some ⟨g, i, none⟩))) (hy : Ev N ρ y u) (hsz : u.cells.size = 20) (hl : i + 20 ≤ xs.length) (h1 : ∀ u' ∈ u.cells.toList, u'.oneCell' = true) (hsp : splice xs i u.cells.toList = xs') : ∃ w', Ex0 Tryd.prog N ρ w (.store 63 x y) ty w' ∧ St H w' (row e size v n xs' :: L) := by
  obtain ⟨i0, e1, _, e3, _⟩ := inf63
  exact m_storeRow e1 h hv hx hy (by rw [e3]; exact hsz) (by rw [e3]; exact hl) h1 hsp
theorem al63 {N : Nat} {ρ : Nat → Value} {H : Hp} {w : World} {L : List Res} {ty : Nat} {cs : List Value} (h : St H w L) (hv : (.agg #[.int .i64 0, .slice none 0 0, .slice none 0 0, .int .u16 0, .int .u16 0, .int .u16 0, .int .u16 0, .int .u16 0, .int .u16 0, .int .u16 0, .int .u16 0, .int .u16 0, .int .u16 0, .int .u16 0, .int .u16 0, .int .u16 0, .int .u16 0, .int .u16 0, .int .u16 0, .int .i64 0] : Value).cells = cs.toArray) : ∃ v' w', Ex Tryd.prog N ρ w (.alloc 63) ty v' w' ∧ ∃ g, v' = .pointer (some ⟨g, 0, none⟩) ∧ St H w' (obj g 63 cs :: L) := by
  obtain ⟨i0, e1, e2, _, _⟩ := inf63
  exact m_alloc e1 e2 h hv
theorem ag64 : aggT Tryd.prog 64 = true := by kernel_rfl
theorem ld64 {N : Nat} {ρ : Nat → Value} {w : World} {ty : Nat} {x : Operand} {ad : Addr} {cs : List Value} (hx : Ev N ρ x (.pointer (some ad))) (hc : At w ad cs) (hl : cs.length = 20) : Ex Tryd.prog N ρ w (.load 64 x) ty (.agg cs.toArray) w := by
  obtain ⟨i0, h1, _, h3, _⟩ := inf64
  exact x_loadA ag64 h1 hx hc (by rw [h3]; exact hl)
theorem lv64 {w : World} {ad : Addr} {cs : List Value} (hc : At w ad cs) (hl : cs.length = 20) : (loadVar 64 ad).run Tryd.prog w = .ok (.agg cs.toArray) w := by
  obtain ⟨i0, h1, _, h3, _⟩ := inf64
  exact run_loadVar_t ag64 h1 hc (by rw [h3]; exact hl)
theorem sto64 {N : Nat} {ρ : Nat → Value} {H : Hp} {w : World} {L : List Res} {g T ty i : Nat} {x y : Operand} {cs cs' : List Value} {v : Value} (h : St H w (obj g T cs :: L)) (hx : Ev N ρ x (.pointer (some ⟨g, i, none⟩))) (hy : Ev N ρ y v) (hsz : v.cells.size = 20) (hl : i + 20 ≤ cs.length) (h1 : ∀ u ∈ v.cells.toList, u.oneCell' = true) (hsp : splice cs i v.cells.toList = cs') : ∃ w', Ex0 Tryd.prog N ρ w (.store 64 x y) ty w' ∧ St H w' (obj g T cs' :: L) := by
  obtain ⟨i0, e1, _, e3, _⟩ := inf64
  exact m_store e1 h hx hy (by rw [e3]; exact hsz) (by rw [e3]; exact hl) h1 hsp
theorem stor64 {N : Nat} {ρ : Nat → Value} {H : Hp} {w : World} {L : List Res} {g e size n cap ty i : Nat} {x y : Operand} {xs xs' : List Value} {v u : Value} (h : St H w (row e size v n xs :: L)) (hv : v = .slice (some ⟨g, 0, none⟩) n cap) (hx : Ev N ρ x (.pointer (some ⟨g, i, none⟩))) (hy : Ev N ρ y u) (hsz : u.cells.size = 20) (hl : i + 20 ≤ xs.length) (h1 : ∀ u' ∈ u.cells.toList, u'.oneCell' = true) (hsp : splice xs i u.cells.toList = xs') : ∃ w', Ex0 Tryd.prog N ρ w (.store 64 x y) ty w' ∧ St H w' (row e size v n xs' :: L) := by
  obtain ⟨i0, e1, _, e3, _⟩ := inf64
  exact m_storeRow e1 h hv hx hy (by rw [e3]; exact hsz) (by rw [e3]; exact hl) h1 hsp
theorem al64 {N : Nat} {ρ : Nat → Value} {H : Hp} {w : World} {L : List Res} {ty : Nat} {cs : List Value} (h : St H w L) (hv : (.agg #[.int .i64 0, .slice none 0 0, .slice none 0 0, .int .u16 0, .int .u16 0, .int .u16 0, .int .u16 0, .int .u16 0, .int .u16 0, .int .u16 0, .int .u16 0, .int .u16 0, .int .u16 0, .int .u16 0, .int .u16 0, .int .u16 0, .int .u16 0, .int .u16 0, .int .u16 0, .int .i64 0] : Value).cells = cs.toArray) : ∃ v' w', Ex Tryd.prog N ρ w (.alloc 64) ty v' w' ∧ ∃ g, v' = .pointer (some ⟨g, 0, none⟩) ∧ St H w' (obj g 64 cs :: L) := by
  obtain ⟨i0, e1, e2, _, _⟩ := inf64
  exact m_alloc e1 e2 h hv
theorem ag83 : aggT Tryd.prog 83 = true := by kernel_rfl
theorem ld83 {N : Nat} {ρ : Nat → Value} {w : World} {ty : Nat} {x : Operand} {ad : Addr} {cs : List Value} (hx : Ev N ρ x (.pointer (some ad))) (hc : At w ad cs) (hl : cs.length = 32) : Ex Tryd.prog N ρ w (.load 83 x) ty (.agg cs.toArray) w := by
  obtain ⟨i0, h1, _, h3, _⟩ := inf83
  exact x_loadA ag83 h1 hx hc (by rw [h3]; exact hl)
theorem lv83 {w : World} {ad : Addr} {cs : List Value} (hc : At w ad cs) (hl : cs.length = 32) : (loadVar 83 ad).run Tryd.prog w = .ok (.agg cs.toArray) w := by
  obtain ⟨i0, h1, _, h3, _⟩ := inf83
  exact run_loadVar_t ag83 h1 hc (by rw [h3]; exact hl)
theorem sto83 {N : Nat} {ρ : Nat → Value} {H : Hp} {w : World} {L : List Res} {g T ty i : Nat} {x y : Operand} {cs cs' : List Value} {v : Value} (h : St H w (obj g T cs :: L)) (hx : Ev N ρ x (.pointer (some ⟨g, i, none⟩))) (hy : Ev N ρ y v) (hsz : v.cells.size = 32) (hl : i + 32 ≤ cs.length) (h1 : ∀ u ∈ v.cells.toList, u.oneCell' = true) (hsp : splice cs i v.cells.toList = cs') : ∃ w', Ex0 Tryd.prog N ρ w (.store 83 x y) ty w' ∧ St H w' (obj g T cs' :: L) := by
  obtain ⟨i0, e1, _, e3, _⟩ := inf83
  exact m_store e1 h hx hy (by rw [e3]; exact hsz) (by rw [e3]; exact hl) h1 hsp
theorem stor83 {N : Nat} {ρ : Nat → Value} {H : Hp} {w : World} {L : List Res} {g e size n cap ty i : Nat} {x y : Operand} {xs xs' : List Value} {v u : Value} (h : St H w (row e size v n xs :: L)) (hv : v = .slice (some ⟨g, 0, none⟩) n cap) (hx : Ev N ρ x (.pointer (some ⟨g, i, none⟩))) (hy : Ev N ρ y u) (hsz : u.cells.size = 32) (hl : i + 32 ≤ xs.length) (h1 : ∀ u' ∈ u.cells.toList, u'.oneCell' = true) (hsp : splice xs i u.cells.toList = xs') : ∃ w', Ex0 Tryd.prog N ρ w (.store 83 x y) ty w' ∧ St H w' (row e size v n xs' :: L) := by
  obtain ⟨i0, e1, _, e3, _⟩ := inf83
  exact m_storeRow e1 h hv hx hy (by rw [e3]; exact hsz) (by rw [e3]; exact hl) h1 hsp
theorem al83 {N : Nat} {ρ : Nat → Value} {H : Hp} {w : World} {L : List Res} {ty : Nat} {cs : List Value} (h : St H w L) (hv : (.agg #[.int .u8 0, .int .u8 0, .int .u8 0, .int .u8 0, .int .u8 0, .int .u8 0, .int .u8 0, .int .u8 0, .int .u8 0, .int .u8 0, .int .u8 0, .int .u8 0, .int .u8 0, .int .u8 0, .int .u8 0, .int .u8 0, .int .u8 0, .int .u8 0, .int .u8 0, .int .u8 0, .int .u8 0, .int .u8 0, .int .u8 0, .int .u8 0, .int .u8 0, .int .u8 0, .int .u8 0, .int .u8 0, .int .u8 0, .int .u8 0, .int .u8 0, .int .u8 0] : Value).cells = cs.toArray) : ∃ v' w', Ex Tryd.prog N ρ w (.alloc 83) ty v' w' ∧ ∃ g, v' = .pointer (some ⟨g, 0, none⟩) ∧ St H w' (obj g 83 cs :: L) := by
  obtain ⟨i0, e1, e2, _, _⟩ := inf83
  exact m_alloc e1 e2 h hv
theorem sc84 : scalarT Tryd.prog 84 = true := by kernel_rfl
theorem ld84 {N : Nat} {ρ : Nat → Value} {w : World} {ty : Nat} {x : Operand} {ad : Addr} {v : Value} (hx : Ev N ρ x (.pointer (some ad))) (hc : w.cell? ad = some v) : Ex Tryd.prog N ρ w (.load 84 x) ty v w := x_load sc84 hx hc
theorem sto84 {N : Nat} {ρ : Nat → Value} {H : Hp} {w : World} {L : List Res} {g T ty i : Nat} {x y : Operand} {cs cs' : List Value} {v : Value} (h : St H w (obj g T cs :: L)) (hx : Ev N ρ x (.pointer (some ⟨g, i, none⟩))) (hy : Ev N ρ y v) (hsz : v.cells.size = 1) (hl : i + 1 ≤ cs.length) (h1 : ∀ u ∈ v.cells.toList, u.oneCell' = true) (hsp : splice cs i v.cells.toList = cs') : ∃ w', Ex0 Tryd.prog N ρ w (.store 84 x y) ty w' ∧ St H w' (obj g T cs' :: L) := by
  obtain ⟨i0, e1, _, e3, _⟩ := inf84
  exact m_store e1 h hx hy (by rw [e3]; exact hsz) (by rw [e3]; exact hl) h1 hsp
theorem stor84 {N : Nat} {ρ : Nat → Value} {H : Hp} {w : World} {L : List Res} {g e size n cap ty i : Nat} {x y : Operand} {xs xs' : List Value} {v u : Value} (h : St H w (row e size v n xs :: L)) (hv : v = .slice (some ⟨g, 0, none⟩) n cap) (hx : Ev N ρ x (.pointer (some ⟨g, i, none⟩))) (hy : Ev N ρ y u) (hsz : u.cells.size = 1) (hl : i + 1 ≤ xs.length) (h1 : ∀ u' ∈ u.cells.toList, u'.oneCell' = true) (hsp : splice xs i u.cells.toList = xs') : ∃ w', Ex0 Tryd.prog N ρ w (.store 84 x y) ty w' ∧ St H w' (row e size v n xs' :: L) := by
  obtain ⟨i0, e1, _, e3, _⟩ := inf84
  exact m_storeRow e1 h hv hx hy (by rw [e3]; exact hsz) (by rw [e3]; exact hl) h1 hsp
theorem al84 {N : Nat} {ρ : Nat → Value} {H : Hp} {w : World} {L : List Res} {ty : Nat} {cs : List Value} (h : St H w L) (hv : (.int .u32 0 : Value).cells = cs.toArray) : ∃ v' w', Ex Tryd.prog N ρ w (.alloc 84) ty v' w' ∧ ∃ g, v' = .pointer (some ⟨g, 0, none⟩) ∧ St H w' (obj g 84 cs :: L) := by
  obtain ⟨i0, e1, e2, _, _⟩ := inf84
  exact m_alloc e1 e2 h hv
theorem sc85 : scalarT Tryd.prog 85 = true := by kernel_rfl
theorem ld85 {N : Nat} {ρ : Nat → Value} {w : World} {ty : Nat} {x : Operand} {ad : Addr} {v : Value} (hx : Ev N ρ x (.pointer (some ad))) (hc : w.cell? ad = some v) : Ex Tryd.prog N ρ w (.load 85 x) ty v w := x_load sc85 hx hc
theorem sto85 {N : Nat} {ρ : Nat → Value} {H : Hp} {w : World} {L : List Res} {g T ty i : Nat} {x y : Operand} {cs cs' : List Value} {v : Value} (h : St H w (obj g T cs :: L)) (hx : Ev N ρ x (.pointer (some ⟨g, i, none⟩))) (hy : Ev N ρ y v) (hsz : v.cells.size = 1) (hl : i + 1 ≤ cs.length) (h1 : ∀ u ∈ v.cells.toList, u.oneCell' = true) (hsp : splice cs i v.cells.toList = cs') : ∃ w', Ex0 Tryd.prog N ρ w (.store 85 x y) ty w' ∧ St H w' (obj g T cs' :: L) := by
  obtain ⟨i0, e1, _, e3, _⟩ := inf85
  exact m_store e1 h hx hy (by rw [e3]; exact hsz) (by rw [e3]; exact hl) h1 hsp
theorem stor85 {N : Nat} {ρ : Nat → Value} {H : Hp} {w : World} {L : List Res} {g e size n cap ty i : Nat} {x y : Operand} {xs xs' : List Value} {v u : Value} (h : St H w (row e size v n xs :: L)) (hv : v = .slice (some ⟨g, 0, none⟩) n cap) (hx : Ev N ρ x (.pointer (some ⟨g, i, none⟩))) (hy : Ev N ρ y u) (hsz : u.cells.size = 1) (hl : i + 1 ≤ xs.length) (h1 : ∀ u' ∈ u.cells.toList, u'.oneCell' = true) (hsp : splice xs i u.cells.toList = xs') : ∃ w', Ex0 Tryd.prog N ρ w (.store 85 x y) ty w' ∧ St H w' (row e size v n xs' :: L) := by
  obtain ⟨i0, e1, _, e3, _⟩ := inf85
  exact m_storeRow e1 h hv hx hy (by rw [e3]; exact hsz) (by rw [e3]; exact hl) h1 hsp
theorem al85 {N : Nat} {ρ : Nat → Value} {H : Hp} {w : World} {L : List Res} {ty : Nat} {cs : List Value} (h : St H w L) (hv : (.int .u64 0 : Value).cells = cs.toArray) : ∃ v' w', Ex Tryd.prog N ρ w (.alloc 85) ty v' w' ∧ ∃ g, v' = .pointer (some ⟨g, 0, none⟩) ∧ St H w' (obj g 85 cs :: L) := by
  obtain ⟨i0, e1, e2, _, _⟩ := inf85
  exact m_alloc e1 e2 h hv
theorem ag87 : aggT Tryd.prog 87 = true := by kernel_rfl
theorem ld87 {N : Nat} {ρ : Nat → Value} {w : World} {ty : Nat} {x : Operand} {ad : Addr} {cs : List Value} (hx : Ev N ρ x (.pointer (some ad))) (hc : At w ad cs) (hl : cs.length = 4) : Ex Tryd.prog N ρ w (.load 87 x) ty (.agg cs.toArray) w := by
  obtain ⟨i0, h1, _, h3, _⟩ := inf87
  exact x_loadA ag87 h1 hx hc (by rw [h3]; exact hl)
theorem lv87 {w : World} {ad : Addr} {cs : List Value} (hc : At w ad cs) (hl : cs.length = 4) : (loadVar 87 ad).run Tryd.prog w = .ok (.agg cs.toArray) w := by
  obtain ⟨i0, h1, _, h3, _⟩ := inf87
  exact run_loadVar_t ag87 h1 hc (by rw [h3]; exact hl)
theorem sto87 {N : Nat} {ρ : Nat → Value} {H : Hp} {w : World} {L : List Res} {g T ty i : Nat} {x y : Operand} {cs cs' : List Value} {v : Value} (h : St H w (obj g T cs :: L)) (hx : Ev N ρ x (.pointer (some ⟨g, i, none⟩))) (hy : Ev N ρ y v) (hsz : v.cells.size = 4) (hl : i + 4 ≤ cs.length) (h1 : ∀ u ∈ v.cells.toList, u.oneCell' = true) (hsp : splice cs i v.cells.toList = cs') : ∃ w', Ex0 Tryd.prog N ρ w (.store 87 x y) ty w' ∧ St H w' (obj g T cs' :: L) := by
  obtain ⟨i0, e1, _, e3, _⟩ := inf87
  exact m_store e1 h hx hy (by rw [e3]; exact hsz) (by rw [e3]; exact hl) h1 hsp
theorem stor87 {N : Nat} {ρ : Nat → Value} {H : Hp} {w : World} {L : List Res} {g e size n cap ty i : Nat} {x y : Operand} {xs xs' : List Value} {v u : Value} (h : St H w (row e size v n xs :: L)) (hv : v = .slice (some ⟨g, 0, none⟩) n cap) (hx : Ev N ρ x (.pointer (some ⟨g, i, none⟩))) (hy : Ev N ρ y u) (hsz : u.cells.size = 4) (hl : i + 4 ≤ xs.length) (h1 : ∀ u' ∈ u.cells.toList, u'.oneCell' = true) (hsp : splice xs i u.cells.toList = xs') : ∃ w', Ex0 Tryd.prog N ρ w (.store 87 x y) ty w' ∧ St H w' (row e size v n xs' :: L) := by
  obtain ⟨i0, e1, _, e3, _⟩ := inf87
  exact m_storeRow e1 h hv hx hy (by rw [e3]; exact hsz) (by rw [e3]; exact hl) h1 hsp
theorem al87 {N : Nat} {ρ : Nat → Value} {H : Hp} {w : World} {L : List Res} {ty : Nat} {cs : List Value} (h : St H w L) (hv : (.agg #[.pointer none, .pointer none, .pointer none, .string ⟨#[]⟩] : Value).cells = cs.toArray) : ∃ v' w', Ex Tryd.prog N ρ w (.alloc 87) ty v' w' ∧ ∃ g, v' = .pointer (some ⟨g, 0, none⟩) ∧ St H w' (obj g 87 cs :: L) := by
  obtain ⟨i0, e1, e2, _, _⟩ := inf87
  exact m_alloc e1 e2 h hv
theorem ag88 : aggT Tryd.prog 88 = true := by kernel_rfl
theorem ld88 {N : Nat} {ρ : Nat → Value} {w : World} {ty : Nat} {x : Operand} {ad : Addr} {cs : List Value} (hx : Ev N ρ x (.pointer (some ad))) (hc : At w ad cs) (hl : cs.length = 4) : Ex Tryd.prog N ρ w (.load 88 x) ty (.agg cs.toArray) w := by
  obtain ⟨i0, h1, _, h3, _⟩ := inf88
  exact x_loadA ag88 h1 hx hc (by rw [h3]; exact hl)
theorem lv88 {w : World} {ad : Addr} {cs : List Value} (hc : At w ad cs) (hl : cs.length = 4) : (loadVar 88 ad).run Tryd.prog w = .ok (.agg cs.toArray) w := by
  obtain ⟨i0, h1, _, h3, _⟩ := inf88
  exact run_loadVar_t ag88 h1 hc (by rw [h3]; exact hl)
theorem sto88 {N : Nat} {ρ : Nat → Value} {H : Hp} {w : World} {L : List Res} {g T ty i : Nat} {x y : Operand} {cs cs' : List Value} {v : Value} (h : St H w (obj g T cs :: L)) (hx : Ev N ρ x (.pointer (some ⟨g, i, none⟩))) (hy : Ev N ρ y v) (hsz : v.cells.size = 4) (hl : i + 4 ≤ cs.length) (h1 : ∀ u ∈ v.cells.toList, u.oneCell' = true) (hsp : splice cs i v.cells.toList = cs') : ∃ w', Ex0 Tryd.prog N ρ w (.store 88 x y) ty w' ∧ St H w' (obj g T cs' :: L) := by
  obtain ⟨i0, e1, _, e3, _⟩ := inf88
  exact m_store e1 h hx hy (by rw [e3]; exact hsz) (by rw [e3]; exact hl) h1 hsp
theorem stor88 {N : Nat} {ρ : Nat → Value} {H : Hp} {w : World} {L : List Res} {g e size n cap ty i : Nat} {x y : Operand} {xs xs' : List Value} {v u : Value} (h : St H w (row e size v n xs :: L)) (hv : v = .slice (some ⟨g, 0, none⟩) n cap) (hx : Ev N ρ x (.pointer (some ⟨g, i, none⟩))) (hy : Ev N ρ y u) (hsz : u.cells.size = 4) (hl : i + 4 ≤ xs.length) (h1 : ∀ u' ∈ u.cells.toList, u'.oneCell' = true) (hsp : splice xs i u.cells.toList = xs') : ∃ w', Ex0 Tryd.prog N ρ w (.store 88 x y) ty w' ∧ St H w' (row e size v n xs' :: L) := by
  obtain ⟨i0, e1, _, e3, _⟩ := inf88
  exact m_storeRow e1 h hv hx hy (by rw [e3]; exact hsz) (by rw [e3]; exact hl) h1 hsp
theorem al88 {N : Nat} {ρ : Nat → Value} {H : Hp} {w : World} {L : List Res} {ty : Nat} {cs : List Value} (h : St H w L) (hv : (.agg #[.pointer none, .pointer none, .pointer none, .string ⟨#[]⟩] : Value).cells = cs.toArray) : ∃ v' w', Ex Tryd.prog N ρ w (.alloc 88) ty v' w' ∧ ∃ g, v' = .pointer (some ⟨g, 0, none⟩) ∧ St H w' (obj g 88 cs :: L) := by
  obtain ⟨i0, e1, e2, _, _⟩ := inf88
  exact m_alloc e1 e2 h hv
theorem ag89 : aggT Tryd.prog 89 = true := by kernel_rfl
theorem ld89 {N : Nat} {ρ : Nat → Value} {w : World} {ty : Nat} {x : Operand} {ad : Addr} {cs : List Value} (hx : Ev N ρ x (.pointer (some ad))) (hc : At w ad cs) (hl : cs.length = 0) : Ex Tryd.prog N ρ w (.load 89 x) ty (.agg cs.toArray) w := by
  obtain ⟨i0, h1, _, h3, _⟩ := inf89
  exact x_loadA ag89 h1 hx hc (by rw [h3]; exact hl)
theorem lv89 {w : World} {ad : Addr} {cs : List Value} (hc : At w ad cs) (hl : cs.length = 0) : (loadVar 89 ad).run Tryd.prog w = .ok (.agg cs.toArray) w := by
  obtain ⟨i0, h1, _, h3, _⟩ := inf89
  exact run_loadVar_t ag89 h1 hc (by rw [h3]; exact hl)
theorem sto89 {N : Nat} {ρ : Nat → Value} {H : Hp} {w : World} {L : List Res} {g T ty i : Nat} {x y : Operand} {cs cs' : List Value} {v : Value} (h : St H w (obj g T cs :: L)) (hx : Ev N ρ x (.pointer (some ⟨g, i, none⟩))) (hy : Ev N ρ y v) (hsz : v.cells.size = 0) (hl : i + 0 ≤ cs.length) (h1 : ∀ u ∈ v.cells.toList, u.oneCell' = true) (hsp : splice cs i v.cells.toList = cs') : ∃ w', Ex0 Tryd.prog N ρ w (.store 89 x y) ty w' ∧ St H w' (obj g T cs' :: L) := by
  obtain ⟨i0, e1, _, e3, _⟩ := inf89
  exact m_store e1 h hx hy (by rw [e3]; exact hsz) (by rw [e3]; exact hl) h1 hsp
theorem stor89 {N : Nat} {ρ : Nat → Value} {H : Hp} {w : World} {L : List Res} {g e size n cap ty i : Nat} {x y : Operand} {xs xs' : List Value} {v u : Value} (h : St H w (row e size v n xs :: L)) (hv : v = .slice (some ⟨g, 0, none⟩) n cap) (hx : Ev N ρ x (.pointer (some ⟨g, i, none⟩))) (hy : Ev N ρ y u) (hsz : u.cells.size = 0) (hl : i + 0 ≤ xs.length) (h1 : ∀ u' ∈ u.cells.toList, u'.oneCell' = true) (hsp : splice xs i u.cells.toList = xs') : ∃ w', Ex0 Tryd.prog N ρ w (.store 89 x y) ty w' ∧ St H w' (row e size v n xs' :: L) := by
  obtain ⟨i0, e1, _, e3, _⟩ := inf89
  exact m_storeRow e1 h hv hx hy (by rw [e3]; exact hsz) (by rw [e3]; exact hl) h1 hsp
theorem al89 {N : Nat} {ρ : Nat → Value} {H : Hp} {w : World} {L : List Res} {ty : Nat} {cs : List Value} (h : St H w L) (hv : (.agg #[] : Value).cells = cs.toArray) : ∃ v' w', Ex Tryd.prog N ρ w (.alloc 89) ty v' w' ∧ ∃ g, v' = .pointer (some ⟨g, 0, none⟩) ∧ St H w' (obj g 89 cs :: L) := by
  obtain ⟨i0, e1, e2, _, _⟩ := inf89
  exact m_alloc e1 e2 h hv
theorem sc92 : scalarT Tryd.prog 92 = true := by kernel_rfl
theorem ld92 {N : Nat} {ρ : Nat → Value} {w : World} {ty : Nat} {x : Operand} {ad : Addr} {v : Value} (hx : Ev N ρ x (.pointer (some ad))) (hc : w.cell? ad = some v) : Ex Tryd.prog N ρ w (.load 92 x) ty v w := x_load sc92 hx hc
theorem sto92 {N : Nat} {ρ : Nat → Value} {H : Hp} {w : World} {L : List Res} {g T ty i : Nat} {x y : Operand} {cs cs' : List Value} {v : Value} (h : St H w (obj g T cs :: L)) (hx : Ev N ρ x (.pointer (some ⟨g, i, none⟩))) (hy : Ev N ρ y v) (hsz : v.cells.size = 1) (hl : i + 1 ≤ cs.length) (h1 : ∀ u ∈ v.cells.toList, u.oneCell' = true) (hsp : splice cs i v.cells.toList = cs') : ∃ w', Ex0 Tryd.prog N ρ w (.store 92 x y) ty w' ∧ St H w' (obj g T cs' :: L) := by
  obtain ⟨i0, e1, _, e3, _⟩ := inf92
  exact m_store e1 h hx hy (by rw [e3]; exact hsz) (by rw [e3]; exact hl) h1 hsp
theorem stor92 {N : Nat} {ρ : Nat → Value} {H : Hp} {w : World} {L : List Res} {g e size n cap ty i : Nat} {x y : Operand} {xs xs' : List Value} {v u : Value} (h : St H w (row e size v n xs :: L)) (hv : v = .slice (some ⟨g, 0, none⟩) n cap) (hx : Ev N ρ x (.pointer (some ⟨g, i, none⟩))) (hy : Ev N ρ y u) (hsz : u.cells.size = 1) (hl : i + 1 ≤ xs.length) (h1 : ∀ u' ∈ u.cells.toList, u'.oneCell' = true) (hsp : splice xs i u.cells.toList = xs') : ∃ w', Ex0 Tryd.prog N ρ w (.store 92 x y) ty w' ∧ St H w' (row e size v n xs' :: L) := by
  obtain ⟨i0, e1, _, e3, _⟩ := inf92
  exact m_storeRow e1 h hv hx hy (by rw [e3]; exact hsz) (by rw [e3]; exact hl) h1 hsp
theorem al92 {N : Nat} {ρ : Nat → Value} {H : Hp} {w : World} {L : List Res} {ty : Nat} {cs : List Value} (h : St H w L) (hv : (.int .u8 0 : Value).cells = cs.toArray) : ∃ v' w', Ex Tryd.prog N ρ w (.alloc 92) ty v' w' ∧ ∃ g, v' = .pointer (some ⟨g, 0, none⟩) ∧ St H w' (obj g 92 cs :: L) := by
  obtain ⟨i0, e1, e2, _, _⟩ := inf92
  exact m_alloc e1 e2 h hv
theorem sc93 : scalarT Tryd.prog 93 = true := by kernel_rfl
theorem ld93 {N : Nat} {ρ : Nat → Value} {w : World} {ty : Nat} {x : Operand} {ad : Addr} {v : Value} (hx : Ev N ρ x (.pointer (some ad))) (hc : w.cell? ad = some v) : Ex Tryd.prog N ρ w (.load 93 x) ty v w := x_load sc93 hx hc
theorem sto93 {N : Nat} {ρ : Nat → Value} {H : Hp} {w : World} {L : List Res} {g T ty i : Nat} {x y : Operand} {cs cs' : List Value} {v : Value} (h : St H w (obj g T cs :: L)) (hx : Ev N ρ x (.pointer (some ⟨g, i, none⟩))) (hy : Ev N ρ y v) (hsz : v.cells.size = 1) (hl : i + 1 ≤ cs.length) (h1 : ∀ u ∈ v.cells.toList, u.oneCell' = true) (hsp : splice cs i v.cells.toList = cs') : ∃ w', Ex0 Tryd.prog N ρ w (.store 93 x y) ty w' ∧ St H w' (obj g T cs' :: L) := by
  obtain ⟨i0, e1, _, e3, _⟩ := inf93
  exact m_store e1 h hx hy (by rw [e3]; exact hsz) (by rw [e3]; exact hl) h1 hsp
theorem stor93 {N : Nat} {ρ : Nat → Value} {H : Hp} {w : World} {L : List Res} {g e size n cap ty i : Nat} {x y : Operand} {xs xs' : List Value} {v u : Value} (h : St H w (row e size v n xs :: L)) (hv : v = .slice (some ⟨g, 0, none⟩) n cap) (hx : Ev N ρ x (.pointer (some ⟨g, i, none⟩))) (hy : Ev N ρ y u) (hsz : u.cells.size = 1) (hl : i + 1 ≤ xs.length) (h1 : ∀ u' ∈ u.cells.toList, u'.oneCell' = true) (hsp : splice xs i u.cells.toList = xs') : ∃ w', Ex0 Tryd.prog N ρ w (.store 93 x y) ty w' ∧ St H w' (row e size v n xs' :: L) := by
  obtain ⟨i0, e1, _, e3, _⟩ := inf93
  exact m_storeRow e1 h hv hx hy (by rw [e3]; exact hsz) (by rw [e3]; exact hl) h1 hsp
theorem al93 {N : Nat} {ρ : Nat → Value} {H : Hp} {w : World} {L : List Res} {ty : Nat} {cs : List Value} (h : St H w L) (hv : (.int .u8 0 : Value).cells = cs.toArray) : ∃ v' w', Ex Tryd.prog N ρ w (.alloc 93) ty v' w' ∧ ∃ g, v' = .pointer (some ⟨g, 0, none⟩) ∧ St H w' (obj g 93 cs :: L) := by
  obtain ⟨i0, e1, e2, _, _⟩ := inf93
  exact m_alloc e1 e2 h hv
theorem sc95 : scalarT Tryd.prog 95 = true := by kernel_rfl
theorem ld95 {N : Nat} {ρ : Nat → Value} {w : World} {ty : Nat} {x : Operand} {ad : Addr} {v : Value} (hx : Ev N ρ x (.pointer (some ad))) (hc : w.cell? ad = some v) : Ex Tryd.prog N ρ w (.load 95 x) ty v w := x_load sc95 hx hc
theorem sto95 {N : Nat} {ρ : Nat → Value} {H : Hp} {w : World} {L : List Res} {g T ty i : Nat} {x y : Operand} {cs cs' : List Value} {v : Value} (h : St H w (obj g T cs :: L)) (hx : Ev N ρ x (.pointer (some ⟨g, i, none⟩))) (hy : Ev N ρ y v) (hsz : v.cells.size = 1) (hl : i + 1 ≤ cs.length) (h1 : ∀ u ∈ v.cells.toList, u.oneCell' = true) (hsp : splice cs i v.cells.toList = cs') : ∃ w', Ex0 Tryd.prog N ρ w (.store 95 x y) ty w' ∧ St H w' (obj g T cs' :: L) := by
  obtain ⟨i0, e1, _, e3, _⟩ := inf95
  exact m_store e1 h hx hy (by rw [e3]; exact hsz) (by rw [e3]; exact hl) h1 hsp
theorem stor95 {N : Nat} {ρ : Nat → Value} {H : Hp} {w : World} {L : List Res} {g e size n cap ty i : Nat} {x y : Operand} {xs xs' : List Value} {v u : Value} (h : St H w (row e size v n xs :: L)) (hv : v = .slice (some ⟨g, 0, none⟩) n cap) (hx : Ev N ρ x (.pointer (some ⟨g, i, none⟩))) (hy : Ev N ρ y u) (hsz : u.cells.size = 1) (hl : i + 1 ≤ xs.length) (h1 : ∀ u' ∈ u.cells.toList, u'.oneCell' = true) (hsp : splice xs i u.cells.toList = xs') : ∃ w', Ex0 Tryd.prog N ρ w (.store 95 x y) ty w' ∧ St H w' (row e size v n xs' :: L) := by
  obtain ⟨i0, e1, _, e3, _⟩ := inf95
  exact m_storeRow e1 h hv hx hy (by rw [e3]; exact hsz) (by rw [e3]; exact hl) h1 hsp
theorem al95 {N : Nat} {ρ : Nat → Value} {H : Hp} {w : World} {L : List Res} {ty : Nat} {cs : List Value} (h : St H w L) (hv : (.pointer none : Value).cells = cs.toArray) : ∃ v' w', Ex Tryd.prog N ρ w (.alloc 95) ty v' w' ∧ ∃ g, v' = .pointer (some ⟨g, 0, none⟩) ∧ St H w' (obj g 95 cs :: L) := by
  obtain ⟨i0, e1, e2, _, _⟩ := inf95
  exact m_alloc e1 e2 h hv
theorem sc96 : scalarT Tryd.prog 96 = true := by kernel_rfl
theorem ld96 {N : Nat} {ρ : Nat → Value} {w : World} {ty : Nat} {x : Operand} {ad : Addr} {v : Value} (hx : Ev N ρ x (.pointer (some ad))) (hc : w.cell? ad = some v) : Ex Tryd.prog N ρ w (.load 96 x) ty v w := x_load sc96 hx hc
theorem sto96 {N : Nat} {ρ : Nat → Value} {H : Hp} {w : World} {L : List Res} {g T ty i : Nat} {x y : Operand} {cs cs' : List Value} {v : Value} (h : St H w (obj g T cs :: L)) (hx : Ev N ρ x (.pointer (some ⟨g, i, none⟩))) (hy : Ev N ρ y v) (hsz : v.cells.size = 1) (hl : i + 1 ≤ cs.length) (h1 : ∀ u ∈ v.cells.toList, u.oneCell' = true) (hsp : splice cs i v.cells.toList = cs') : ∃ w', Ex0 Tryd.prog N ρ w (.store 96 x y) ty w' ∧ St H w' (obj g T cs' :: L) := by
  obtain ⟨i0, e1, _, e3, _⟩ := inf96
  exact m_store e1 h hx hy (by rw [e3]; exact hsz) (by rw [e3]; exact hl) h1 hsp
theorem stor96 {N : Nat} {ρ : Nat → Value} {H : Hp} {w : World} {L : List Res} {g e size n cap ty i : Nat} {x y : Operand} {xs xs' : List Value} {v u : Value} (h : St H w (row e size v n xs :: L)) (hv : v = .slice (some ⟨g, 0, none⟩) n cap) (hx : Ev N ρ x (.pointer (some ⟨g, i, none⟩))) (hy : Ev N ρ y u) (hsz : u.cells.size = 1) (hl : i + 1 ≤ xs.length) (h1 : ∀ u' ∈ u.cells.toList, u'.oneCell' = true) (hsp : splice xs i u.cells.toList = xs') : ∃ w', Ex0 Tryd.prog N ρ w (.store 96 x y) ty w' ∧ St H w' (row e size v n xs' :: L) := by
  obtain ⟨i0, e1, _, e3, _⟩ := inf96
  exact m_storeRow e1 h hv hx hy (by rw [e3]; exact hsz) (by rw [e3]; exact hl) h1 hsp
theorem al96 {N : Nat} {ρ : Nat → Value} {H : Hp} {w : World} {L : List Res} {ty : Nat} {cs : List Value} (h : St H w L) (hv : (.int .i32 0 : Value).cells = cs.toArray) : ∃ v' w', Ex Tryd.prog N ρ w (.alloc 96) ty v' w' ∧ ∃ g, v' = .pointer (some ⟨g, 0, none⟩) ∧ St H w' (obj g 96 cs :: L) := by
  obtain ⟨i0, e1, e2, _, _⟩ := inf96
  exact m_alloc e1 e2 h hv
theorem sc97 : scalarT Tryd.prog 97 = true := by kernel_rfl
theorem ld97 {N : Nat} {ρ : Nat → Value} {w : World} {ty : Nat} {x : Operand} {ad : Addr} {v : Value} (hx : Ev N ρ x (.pointer (some ad))) (hc : w.cell? ad = some v) : Ex Tryd.prog N ρ w (.load 97 x) ty v w := x_load sc97 hx hc
theorem sto97 {N : Nat} {ρ : Nat → Value} {H : Hp} {w : World} {L : List Res} {g T ty i : Nat} {x y : Operand} {cs cs' : List Value} {v : Value} (h : St H w (obj g T cs :: L)) (hx : Ev N ρ x (.pointer (some ⟨g, i, none⟩))) (hy : Ev N ρ y v) (hsz : v.cells.size = 1) (hl : i + 1 ≤ cs.length) (h1 : ∀ u ∈ v.cells.toList, u.oneCell' = true) (hsp : splice cs i v.cells.toList = cs') : ∃ w', Ex0 Tryd.prog N ρ w (.store 97 x y) ty w' ∧ St H w' (obj g T cs' :: L) := by
  obtain ⟨i0, e1, _, e3, _⟩ := inf97
  exact m_store e1 h hx hy (by rw [e3]; exact hsz) (by rw [e3]; exact hl) h1 hsp
theorem stor97 {N : Nat} {ρ : Nat → Value} {H : Hp} {w : World} {L : List Res} {g e size n cap ty i : Nat} {x y : Operand} {xs xs' : List Value} {v u : Value} (h : St H w (row e size v n xs :: L)) (hv : v = .slice (some ⟨g, 0, none⟩) n cap) (hx : Ev N ρ x (.pointer (some ⟨g, i, none⟩))) (hy : Ev N ρ y u) (hsz : u.cells.size = 1) (hl : i + 1 ≤ xs.length) (h1 : ∀ u' ∈ u.cells.toList, u'.oneCell' = true) (hsp : splice xs i u.cells.toList = xs') : ∃ w', Ex0 Tryd.prog N ρ w (.store 97 x y) ty w' ∧ St H w' (row e size v n xs' :: L) := by
  obtain ⟨i0, e1, _, e3, _⟩ := inf97
  exact m_storeRow e1 h hv hx hy (by rw [e3]; exact hsz) (by rw [e3]; exact hl) h1 hsp
theorem al97 {N : Nat} {ρ : Nat → Value} {H : Hp} {w : World} {L : List Res} {ty : Nat} {cs : List Value} (h : St H w L) (hv : (.int .i32 0 : Value).cells = cs.toArray) : ∃ v' w', Ex Tryd.prog N ρ w (.alloc 97) ty v' w' ∧ ∃ g, v' = .pointer (some ⟨g, 0, none⟩) ∧ St H w' (obj g 97 cs :: L) := by
  obtain ⟨i0, e1, e2, _, _⟩ := inf97
  exact m_alloc e1 e2 h hv
theorem fa7_0 {N : Nat} {ρ : Nat → Value} {w : World} {ty b o : Nat} {x : Operand} (hx : Ev N ρ x (.pointer (some ⟨b, o, none⟩))) : Ex Tryd.prog N ρ w (.fieldAddr 7 x 0) ty (.pointer (some ⟨b, o + 0, none⟩)) w := by
  obtain ⟨i0, h1, _, h3, _⟩ := inf2
  have := x_fieldAddr (ty := ty) (w := w) Tryd.underlying7 (f := 0) rfl h1 (by rw [h3]; decide) hx
  rwa [add_none] at this
theorem fa7_1 {N : Nat} {ρ : Nat → Value} {w : World} {ty b o : Nat} {x : Operand} (hx : Ev N ρ x (.pointer (some ⟨b, o, none⟩))) : Ex Tryd.prog N ρ w (.fieldAddr 7 x 1) ty (.pointer (some ⟨b, o + 1, none⟩)) w := by
  obtain ⟨i0, h1, _, h3, _⟩ := inf3
  have := x_fieldAddr (ty := ty) (w := w) Tryd.underlying7 (f := 1) rfl h1 (by rw [h3]; decide) hx
  rwa [add_none] at this
theorem fa7_2 {N : Nat} {ρ : Nat → Value} {w : World} {ty b o : Nat} {x : Operand} (hx : Ev N ρ x (.pointer (some ⟨b, o, none⟩))) : Ex Tryd.prog N ρ w (.fieldAddr 7 x 2) ty (.pointer (some ⟨b, o + 2, none⟩)) w := by
  obtain ⟨i0, h1, _, h3, _⟩ := inf4
  have := x_fieldAddr (ty := ty) (w := w) Tryd.underlying7 (f := 2) rfl h1 (by rw [h3]; decide) hx
  rwa [add_none] at this
theorem fa7_3 {N : Nat} {ρ : Nat → Value} {w : World} {ty b o : Nat} {x : Operand} (hx : Ev N ρ x (.pointer (some ⟨b, o, none⟩))) : Ex Tryd.prog N ρ w (.fieldAddr 7 x 3) ty (.pointer (some ⟨b, o + 3, none⟩)) w := by
  obtain ⟨i0, h1, _, h3, _⟩ := inf6
  have := x_fieldAddr (ty := ty) (w := w) Tryd.underlying7 (f := 3) rfl h1 (by rw [h3]; decide) hx
  rwa [add_none] at this
theorem fa8_0 {N : Nat} {ρ : Nat → Value} {w : World} {ty b o : Nat} {x : Operand} (hx : Ev N ρ x (.pointer (some ⟨b, o, none⟩))) : Ex Tryd.prog N ρ w (.fieldAddr 8 x 0) ty (.pointer (some ⟨b, o + 0, none⟩)) w := by
  obtain ⟨i0, h1, _, h3, _⟩ := inf2
  have := x_fieldAddr (ty := ty) (w := w) Tryd.underlying8 (f := 0) rfl h1 (by rw [h3]; decide) hx
  rwa [add_none] at this
theorem fa8_1 {N : Nat} {ρ : Nat → Value} {w : World} {ty b o : Nat} {x : Operand} (hx : Ev N ρ x (.pointer (some ⟨b, o, none⟩))) : Ex Tryd.prog N ρ w (.fieldAddr 8 x 1) ty (.pointer (some ⟨b, o + 1, none⟩)) w := by
  obtain ⟨i0, h1, _, h3, _⟩ := inf3
  have := x_fieldAddr (ty := ty) (w := w) Tryd.underlying8 (f := 1) rfl h1 (by rw [h3]; decide) hx
  rwa [add_none] at this
theorem fa8_2 {N : Nat} {ρ : Nat → Value} {w : World} {ty b o : Nat} {x : Operand} (hx : Ev N ρ x (.pointer (some ⟨b, o, none⟩))) : Ex Tryd.prog N ρ w (.fieldAddr 8 x 2) ty (.pointer (some ⟨b, o + 2, none⟩)) w := by
  obtain ⟨i0, h1, _, h3, _⟩ := inf4
  have := x_fieldAddr (ty := ty) (w := w) Tryd.underlying8 (f := 2) rfl h1 (by rw [h3]; decide) hx
  rwa [add_none] at this
theorem fa8_3 {N : Nat} {ρ : Nat → Value} {w : World} {ty b o : Nat} {x : Operand} (hx : Ev N ρ x (.pointer (some ⟨b, o, none⟩))) : Ex Tryd.prog N ρ w (.fieldAddr 8 x 3) ty (.pointer (some ⟨b, o + 3, none⟩)) w := by
  obtain ⟨i0, h1, _, h3, _⟩ := inf6
  have := x_fieldAddr (ty := ty) (w := w) Tryd.underlying8 (f := 3) rfl h1 (by rw [h3]; decide) hx
  rwa [add_none] at this
theorem fa13_0 {N : Nat} {ρ : Nat → Value} {w : World} {ty b o : Nat} {x : Operand} (hx : Ev N ρ x (.pointer (some ⟨b, o, none⟩))) : Ex Tryd.prog N ρ w (.fieldAddr 13 x 0) ty (.pointer (some ⟨b, o + 0, none⟩)) w := by
  obtain ⟨i0, h1, _, h3, _⟩ := inf9
  have := x_fieldAddr (ty := ty) (w := w) Tryd.underlying13 (f := 0) rfl h1 (by rw [h3]; decide) hx
  rwa [add_none] at this
theorem fa13_1 {N : Nat} {ρ : Nat → Value} {w : World} {ty b o : Nat} {x : Operand} (hx : Ev N ρ x (.pointer (some ⟨b, o, none⟩))) : Ex Tryd.prog N ρ w (.fieldAddr 13 x 1) ty (.pointer (some ⟨b, o + 1, none⟩)) w := by
  obtain ⟨i0, h1, _, h3, _⟩ := inf12
  have := x_fieldAddr (ty := ty) (w := w) Tryd.underlying13 (f := 1) rfl h1 (by rw [h3]; decide) hx
  rwa [add_none] at this
theorem fa14_0 {N : Nat} {ρ : Nat → Value} {w : World} {ty b o : Nat} {x : Operand} (hx : Ev N ρ x (.pointer (some ⟨b, o, none⟩))) : Ex Tryd.prog N ρ w (.fieldAddr 14 x 0) ty (.pointer (some ⟨b, o + 0, none⟩)) w := by
  obtain ⟨i0, h1, _, h3, _⟩ := inf9
  have := x_fieldAddr (ty := ty) (w := w) Tryd.underlying14 (f := 0) rfl h1 (by rw [h3]; decide) hx
  rwa [add_none] at this
theorem fa14_1 {N : Nat} {ρ : Nat → Value} {w : World} {ty b o : Nat} {x : Operand} (hx : Ev N ρ x (.pointer (some ⟨b, o, none⟩))) : Ex Tryd.prog N ρ w (.fieldAddr 14 x 1) ty (.pointer (some ⟨b, o + 1, none⟩)) w := by
  obtain ⟨i0, h1, _, h3, _⟩ := inf12
  have := x_fieldAddr (ty := ty) (w := w) Tryd.underlying14 (f := 1) rfl h1 (by rw [h3]; decide) hx
  rwa [add_none] at this
theorem fa18_0 {N : Nat} {ρ : Nat → Value} {w : World} {ty b o : Nat} {x : Operand} (hx : Ev N ρ x (.pointer (some ⟨b, o, none⟩))) : Ex Tryd.prog N ρ w (.fieldAddr 18 x 0) ty (.pointer (some ⟨b, o + 0, none⟩)) w := by
  obtain ⟨i0, h1, _, h3, _⟩ := inf17
  have := x_fieldAddr (ty := ty) (w := w) Tryd.underlying18 (f := 0) rfl h1 (by rw [h3]; decide) hx
  rwa [add_none] at this
theorem fa19_0 {N : Nat} {ρ : Nat → Value} {w : World} {ty b o : Nat} {x : Operand} (hx : Ev N ρ x (.pointer (some ⟨b, o, none⟩))) : Ex Tryd.prog N ρ w (.fieldAddr 19 x 0) ty (.pointer (some ⟨b, o + 0, none⟩)) w := by
  obtain ⟨i0, h1, _, h3, _⟩ := inf17
  have := x_fieldAddr (ty := ty) (w := w) Tryd.underlying19 (f := 0) rfl h1 (by rw [h3]; decide) hx
  rwa [add_none] at this
theorem fa36_0 {N : Nat} {ρ : Nat → Value} {w : World} {ty b o : Nat} {x : Operand} (hx : Ev N ρ x (.pointer (some ⟨b, o, none⟩))) : Ex Tryd.prog N ρ w (.fieldAddr 36 x 0) ty (.pointer (some ⟨b, o + 0, none⟩)) w := by
  obtain ⟨i0, h1, _, h3, _⟩ := inf3
  have := x_fieldAddr (ty := ty) (w := w) Tryd.underlying36 (f := 0) rfl h1 (by rw [h3]; decide) hx
  rwa [add_none] at this
theorem fa36_1 {N : Nat} {ρ : Nat → Value} {w : World} {ty b o : Nat} {x : Operand} (hx : Ev N ρ x (.pointer (some ⟨b, o, none⟩))) : Ex Tryd.prog N ρ w (.fieldAddr 36 x 1) ty (.pointer (some ⟨b, o + 1, none⟩)) w := by
  obtain ⟨i0, h1, _, h3, _⟩ := inf3
  have := x_fieldAddr (ty := ty) (w := w) Tryd.underlying36 (f := 1) rfl h1 (by rw [h3]; decide) hx
  rwa [add_none] at this
theorem fa36_2 {N : Nat} {ρ : Nat → Value} {w : World} {ty b o : Nat} {x : Operand} (hx : Ev N ρ x (.pointer (some ⟨b, o, none⟩))) : Ex Tryd.prog N ρ w (.fieldAddr 36 x 2) ty (.pointer (some ⟨b, o + 2, none⟩)) w := by
  obtain ⟨i0, h1, _, h3, _⟩ := inf22
  have := x_fieldAddr (ty := ty) (w := w) Tryd.underlying36 (f := 2) rfl h1 (by rw [h3]; decide) hx
  rwa [add_none] at this
theorem fa37_0 {N : Nat} {ρ : Nat → Value} {w : World} {ty b o : Nat} {x : Operand} (hx : Ev N ρ x (.pointer (some ⟨b, o, none⟩))) : Ex Tryd.prog N ρ w (.fieldAddr 37 x 0) ty (.pointer (some ⟨b, o + 0, none⟩)) w := by
  obtain ⟨i0, h1, _, h3, _⟩ := inf3
  have := x_fieldAddr (ty := ty) (w := w) Tryd.underlying37 (f := 0) rfl h1 (by rw [h3]; decide) hx
  rwa [add_none] at this
theorem fa37_1 {N : Nat} {ρ : Nat → Value} {w : World} {ty b o : Nat} {x : Operand} (hx : Ev N ρ x (.pointer (some ⟨b, o, none⟩))) : Ex Tryd.prog N ρ w (.fieldAddr 37 x 1) ty (.pointer (some ⟨b, o + 1, none⟩)) w := by
  obtain ⟨i0, h1, _, h3, _⟩ := inf3
  have := x_fieldAddr (ty := ty) (w := w) Tryd.underlying37 (f := 1) rfl h1 (by rw [h3]; decide) hx
  rwa [add_none] at this
theorem fa37_2 {N : Nat} {ρ : Nat → Value} {w : World} {ty b o : Nat} {x : Operand} (hx : Ev N ρ x (.pointer (some ⟨b, o, none⟩))) : Ex Tryd.prog N ρ w (.fieldAddr 37 x 2) ty (.pointer (some ⟨b, o + 2, none⟩)) w := by
  obtain ⟨i0, h1, _, h3, _⟩ := inf22
  have := x_fieldAddr (ty := ty) (w := w) Tryd.underlying37 (f := 2) rfl h1 (by rw [h3]; decide) hx
  rwa [add_none] at this
theorem fa55_0 {N : Nat} {ρ : Nat → Value} {w : World} {ty b o : Nat} {x : Operand} (hx : Ev N ρ x (.pointer (some ⟨b, o, none⟩))) : Ex Tryd.prog N ρ w (.fieldAddr 55 x 0) ty (.pointer (some ⟨b, o + 0, none⟩)) w := by
  obtain ⟨i0, h1, _, h3, _⟩ := inf3
  have := x_fieldAddr (ty := ty) (w := w) Tryd.underlying55 (f := 0) rfl h1 (by rw [h3]; decide) hx
  rwa [add_none] at this
theorem fa55_1 {N : Nat} {ρ : Nat → Value} {w : World} {ty b o : Nat} {x : Operand} (hx : Ev N ρ x (.pointer (some ⟨b, o, none⟩))) : Ex Tryd.prog N ρ w (.fieldAddr 55 x 1) ty (.pointer (some ⟨b, o + 1, none⟩)) w := by
  obtain ⟨i0, h1, _, h3, _⟩ := inf51
  have := x_fieldAddr (ty := ty) (w := w) Tryd.underlying55 (f := 1) rfl h1 (by rw [h3]; decide) hx
  rwa [add_none] at this
theorem fa55_2 {N : Nat} {ρ : Nat → Value} {w : World} {ty b o : Nat} {x : Operand} (hx : Ev N ρ x (.pointer (some ⟨b, o, none⟩))) : Ex Tryd.prog N ρ w (.fieldAddr 55 x 2) ty (.pointer (some ⟨b, o + 2, none⟩)) w := by
  obtain ⟨i0, h1, _, h3, _⟩ := inf52
  have := x_fieldAddr (ty := ty) (w := w) Tryd.underlying55 (f := 2) rfl h1 (by rw [h3]; decide) hx
  rwa [add_none] at this
theorem fa55_3 {N : Nat} {ρ : Nat → Value} {w : World} {ty b o : Nat} {x : Operand} (hx : Ev N ρ x (.pointer (some ⟨b, o, none⟩))) : Ex Tryd.prog N ρ w (.fieldAddr 55 x 3) ty (.pointer (some ⟨b, o + 3, none⟩)) w := by
  obtain ⟨i0, h1, _, h3, _⟩ := inf54
  have := x_fieldAddr (ty := ty) (w := w) Tryd.underlying55 (f := 3) rfl h1 (by rw [h3]; decide) hx
  rwa [add_none] at this
theorem fa55_4 {N : Nat} {ρ : Nat → Value} {w : World} {ty b o : Nat} {x : Operand} (hx : Ev N ρ x (.pointer (some ⟨b, o, none⟩))) : Ex Tryd.prog N ρ w (.fieldAddr 55 x 4) ty (.pointer (some ⟨b, o + 259, none⟩)) w := by
  obtain ⟨i0, h1, _, h3, _⟩ := inf3
  have := x_fieldAddr (ty := ty) (w := w) Tryd.underlying55 (f := 4) rfl h1 (by rw [h3]; decide) hx
  rwa [add_none] at this
theorem fa56_0 {N : Nat} {ρ : Nat → Value} {w : World} {ty b o : Nat} {x : Operand} (hx : Ev N ρ x (.pointer (some ⟨b, o, none⟩))) : Ex Tryd.prog N ρ w (.fieldAddr 56 x 0) ty (.pointer (some ⟨b, o + 0, none⟩)) w := by
  obtain ⟨i0, h1, _, h3, _⟩ := inf3
  have := x_fieldAddr (ty := ty) (w := w) Tryd.underlying56 (f := 0) rfl h1 (by rw [h3]; decide) hx
  rwa [add_none] at this
theorem fa56_1 {N : Nat} {ρ : Nat → Value} {w : World} {ty b o : Nat} {x : Operand} (hx : Ev N ρ x (.pointer (some ⟨b, o, none⟩))) : Ex Tryd.prog N ρ w (.fieldAddr 56 x 1) ty (.pointer (some ⟨b, o + 1, none⟩)) w := by
  obtain ⟨i0, h1, _, h3, _⟩ := inf51
  have := x_fieldAddr (ty := ty) (w := w) Tryd.underlying56 (f := 1) rfl h1 (by rw [h3]; decide) hx
  rwa [add_none] at this
theorem fa56_2 {N : Nat} {ρ : Nat → Value} {w : World} {ty b o : Nat} {x : Operand} (hx : Ev N ρ x (.pointer (some ⟨b, o, none⟩))) : Ex Tryd.prog N ρ w (.fieldAddr 56 x 2) ty (.pointer (some ⟨b, o + 2, none⟩)) w := by
  obtain ⟨i0, h1, _, h3, _⟩ := inf52
  have := x_fieldAddr (ty := ty) (w := w) Tryd.underlying56 (f := 2) rfl h1 (by rw [h3]; decide) hx
  rwa [add_none] at this
theorem fa56_3 {N : Nat} {ρ : Nat → Value} {w : World} {ty b o : Nat} {x : Operand} (hx : Ev N ρ x (.pointer (some ⟨b, o, none⟩))) : Ex Tryd.prog N ρ w (.fieldAddr 56 x 3) ty (.pointer (some ⟨b, o + 3, none⟩)) w := by
  obtain ⟨i0, h1, _, h3, _⟩ := inf54
  have := x_fieldAddr (ty := ty) (w := w) Tryd.underlying56 (f := 3) rfl h1 (by rw [h3]; decide) hx
  rwa [add_none] at this
theorem fa56_4 {N : Nat} {ρ : Nat → Value} {w : World} {ty b o : Nat} {x : Operand} (hx : Ev N ρ x (.pointer (some ⟨b, o, none⟩))) : Ex Tryd.prog N ρ w (.fieldAddr 56 x 4) ty (.pointer (some ⟨b, o + 259, none⟩)) w := by
  obtain ⟨i0, h1, _, h3, _⟩ := inf3
  have := x_fieldAddr (ty := ty) (w := w) Tryd.underlying56 (f := 4) rfl h1 (by rw [h3]; decide) hx
  rwa [add_none] at this
theorem fa57_0 {N : Nat} {ρ : Nat → Value} {w : World} {ty b o : Nat} {x : Operand} (hx : Ev N ρ x (.pointer (some ⟨b, o, none⟩))) : Ex Tryd.prog N ρ w (.fieldAddr 57 x 0) ty (.pointer (some ⟨b, o + 0, none⟩)) w := by
  obtain ⟨i0, h1, _, h3, _⟩ := inf5
  have := x_fieldAddr (ty := ty) (w := w) Tryd.underlying57 (f := 0) rfl h1 (by rw [h3]; decide) hx
  rwa [add_none] at this
theorem fa57_1 {N : Nat} {ρ : Nat → Value} {w : World} {ty b o : Nat} {x : Operand} (hx : Ev N ρ x (.pointer (some ⟨b, o, none⟩))) : Ex Tryd.prog N ρ w (.fieldAddr 57 x 1) ty (.pointer (some ⟨b, o + 1, none⟩)) w := by
  obtain ⟨i0, h1, _, h3, _⟩ := inf3
  have := x_fieldAddr (ty := ty) (w := w) Tryd.underlying57 (f := 1) rfl h1 (by rw [h3]; decide) hx
  rwa [add_none] at this
theorem fa57_2 {N : Nat} {ρ : Nat → Value} {w : World} {ty b o : Nat} {x : Operand} (hx : Ev N ρ x (.pointer (some ⟨b, o, none⟩))) : Ex Tryd.prog N ρ w (.fieldAddr 57 x 2) ty (.pointer (some ⟨b, o + 2, none⟩)) w := by
  obtain ⟨i0, h1, _, h3, _⟩ := inf3
  have := x_fieldAddr (ty := ty) (w := w) Tryd.underlying57 (f := 2) rfl h1 (by rw [h3]; decide) hx
  rwa [add_none] at this
theorem fa57_3 {N : Nat} {ρ : Nat → Value} {w : World} {ty b o : Nat} {x : Operand} (hx : Ev N ρ x (.pointer (some ⟨b, o, none⟩))) : Ex Tryd.prog N ρ w (.fieldAddr 57 x 3) ty (.pointer (some ⟨b, o + 3, none⟩)) w := by
  obtain ⟨i0, h1, _, h3, _⟩ := inf22
  have := x_fieldAddr (ty := ty) (w := w) Tryd.underlying57 (f := 3) rfl h1 (by rw [h3]; decide) hx
  rwa [add_none] at this
theorem fa58_0 {N : Nat} {ρ : Nat → Value} {w : World} {ty b o : Nat} {x : Operand} (hx : Ev N ρ x (.pointer (some ⟨b, o, none⟩))) : Ex Tryd.prog N ρ w (.fieldAddr 58 x 0) ty (.pointer (some ⟨b, o + 0, none⟩)) w := by
  obtain ⟨i0, h1, _, h3, _⟩ := inf5
  have := x_fieldAddr (ty := ty) (w := w) Tryd.underlying58 (f := 0) rfl h1 (by rw [h3]; decide) hx
  rwa [add_none] at this
theorem fa58_1 {N : Nat} {ρ : Nat → Value} {w : World} {ty b o : Nat} {x : Operand} (hx : Ev N ρ x (.pointer (some ⟨b, o, none⟩))) : Ex Tryd.prog N ρ w (.fieldAddr 58 x 1) ty (.pointer (some ⟨b, o + 1, none⟩)) w := by
  obtain ⟨i0, h1, _, h3, _⟩ := inf3
  have := x_fieldAddr (ty := ty) (w := w) Tryd.underlying58 (f := 1) rfl h1 (by rw [h3]; decide) hx
  rwa [add_none] at this
theorem fa58_2 {N : Nat} {ρ : Nat → Value} {w : World} {ty b o : Nat} {x : Operand} (hx : Ev N ρ x (.pointer (some ⟨b, o, none⟩))) : Ex Tryd.prog N ρ w (.fieldAddr 58 x 2) ty (.pointer (some ⟨b, o + 2, none⟩)) w := by
  obtain ⟨i0, h1, _, h3, _⟩ := inf3
  have := x_fieldAddr (ty := ty) (w := w) Tryd.underlying58 (f := 2) rfl h1 (by rw [h3]; decide) hx
  rwa [add_none] at this
theorem fa58_3 {N : Nat} {ρ : Nat → Value} {w : World} {ty b o : Nat} {x : Operand} (hx : Ev N ρ x (.pointer (some ⟨b, o, none⟩))) : Ex Tryd.prog N ρ w (.fieldAddr 58 x 3) ty (.pointer (some ⟨b, o + 3, none⟩)) w := by
  obtain ⟨i0, h1, _, h3, _⟩ := inf22
  have := x_fieldAddr (ty := ty) (w := w) Tryd.underlying58 (f := 3) rfl h1 (by rw [h3]; decide) hx
  rwa [add_none] at this
theorem fa63_0 {N : Nat} {ρ : Nat → Value} {w : World} {ty b o : Nat} {x : Operand} (hx : Ev N ρ x (.pointer (some ⟨b, o, none⟩))) : Ex Tryd.prog N ρ w (.fieldAddr 63 x 0) ty (.pointer (some ⟨b, o + 0, none⟩)) w := by
  obtain ⟨i0, h1, _, h3, _⟩ := inf3
  have := x_fieldAddr (ty := ty) (w := w) Tryd.underlying63 (f := 0) rfl h1 (by rw [h3]; decide) hx
  rwa [add_none] at this
theorem fa63_1 {N : Nat} {ρ : Nat → Value} {w : World} {ty b o : Nat} {x : Operand} (hx : Ev N ρ x (.pointer (some ⟨b, o, none⟩))) : Ex Tryd.prog N ρ w (.fieldAddr 63 x 1) ty (.pointer (some ⟨b, o + 1, none⟩)) w := by
  obtain ⟨i0, h1, _, h3, _⟩ := inf51
  have := x_fieldAddr (ty := ty) (w := w) Tryd.underlying63 (f := 1) rfl h1 (by rw [h3]; decide) hx
  rwa [add_none] at this
theorem fa63_2 {N : Nat} {ρ : Nat → Value} {w : World} {ty b o : Nat} {x : Operand} (hx : Ev N ρ x (.pointer (some ⟨b, o, none⟩))) : Ex Tryd.prog N ρ w (.fieldAddr 63 x 2) ty (.pointer (some ⟨b, o + 2, none⟩)) w := by
  obtain ⟨i0, h1, _, h3, _⟩ := inf52
  have := x_fieldAddr (ty := ty) (w := w) Tryd.underlying63 (f := 2) rfl h1 (by rw [h3]; decide) hx
  rwa [add_none] at this
theorem fa63_3 {N : Nat} {ρ : Nat → Value} {w : World} {ty b o : Nat} {x : Operand} (hx : Ev N ρ x (.pointer (some ⟨b, o, none⟩))) : Ex Tryd.prog N ρ w (.fieldAddr 63 x 3) ty (.pointer (some ⟨b, o + 3, none⟩)) w := by
  obtain ⟨i0, h1, _, h3, _⟩ := inf62
  have := x_fieldAddr (ty := ty) (w := w) Tryd.underlying63 (f := 3) rfl h1 (by rw [h3]; decide) hx
  rwa [add_none] at this
theorem fa63_4 {N : Nat} {ρ : Nat → Value} {w : World} {ty b o : Nat} {x : Operand} (hx : Ev N ρ x (.pointer (some ⟨b, o, none⟩))) : Ex Tryd.prog N ρ w (.fieldAddr 63 x 4) ty (.pointer (some ⟨b, o + 19, none⟩)) w := by
  obtain ⟨i0, h1, _, h3, _⟩ := inf3
  have := x_fieldAddr (ty := ty) (w := w) Tryd.underlying63 (f := 4) rfl h1 (by rw [h3]; decide) hx
  rwa [add_none] at this
theorem fa64_0 {N : Nat} {ρ : Nat → Value} {w : World} {ty b o : Nat} {x : Operand} (hx : Ev N ρ x (.pointer (some ⟨b, o, none⟩))) : Ex Tryd.prog N ρ w (.fieldAddr 64 x 0) ty (.pointer (some ⟨b, o + 0, none⟩)) w := by
  obtain ⟨i0, h1, _, h3, _⟩ := inf3
  have := x_fieldAddr (ty := ty) (w := w) Tryd.underlying64 (f := 0) rfl h1 (by rw [h3]; decide) hx
  rwa [add_none] at this
theorem fa64_1 {N : Nat} {ρ : Nat → Value} {w : World} {ty b o : Nat} {x : Operand} (hx : Ev N ρ x (.pointer (some ⟨b, o, none⟩))) : Ex Tryd.prog N ρ w (.fieldAddr 64 x 1) ty (.pointer (some ⟨b, o + 1, none⟩)) w := by
  obtain ⟨i0, h1, _, h3, _⟩ := inf51
  have := x_fieldAddr (ty := ty) (w := w) Tryd.underlying64 (f := 1) rfl h1 (by rw [h3]; decide) hx
  rwa [add_none] at this
theorem fa64_2 {N : Nat} {ρ : Nat → Value} {w : World} {ty b o : Nat} {x : Operand} (hx : Ev N ρ x (.pointer (some ⟨b, o, none⟩))) : Ex Tryd.prog N ρ w (.fieldAddr 64 x 2) ty (.pointer (some ⟨b, o + 2, none⟩)) w := by
  obtain ⟨i0, h1, _, h3, _⟩ := inf52
  have := x_fieldAddr (ty := ty) (w := w) Tryd.underlying64 (f := 2) rfl h1 (by rw [h3]; decide) hx
  rwa [add_none] at this
theorem fa64_3 {N : Nat} {ρ : Nat → Value} {w : World} {ty b o : Nat} {x : Operand} (hx : Ev N ρ x (.pointer (some ⟨b, o, none⟩))) : Ex Tryd.prog N ρ w (.fieldAddr 64 x 3) ty (.pointer (some ⟨b, o + 3, none⟩)) w := by
  obtain ⟨i0, h1, _, h3, _⟩ := inf62
  have := x_fieldAddr (ty := ty) (w := w) Tryd.underlying64 (f := 3) rfl h1 (by rw [h3]; decide) hx
  rwa [add_none] at this
theorem fa64_4 {N : Nat} {ρ : Nat → Value} {w : World} {ty b o : Nat} {x : Operand} (hx : Ev N ρ x (.pointer (some ⟨b, o, none⟩))) : Ex Tryd.prog N ρ w (.fieldAddr 64 x 4) ty (.pointer (some ⟨b, o + 19, none⟩)) w := by
  obtain ⟨i0, h1, _, h3, _⟩ := inf3
  have := x_fieldAddr (ty := ty) (w := w) Tryd.underlying64 (f := 4) rfl h1 (by rw [h3]; decide) hx
  rwa [add_none] at this
theorem fa87_0 {N : Nat} {ρ : Nat → Value} {w : World} {ty b o : Nat} {x : Operand} (hx : Ev N ρ x (.pointer (some ⟨b, o, none⟩))) : Ex Tryd.prog N ρ w (.fieldAddr 87 x 0) ty (.pointer (some ⟨b, o + 0, none⟩)) w := by
  obtain ⟨i0, h1, _, h3, _⟩ := inf17
  have := x_fieldAddr (ty := ty) (w := w) Tryd.underlying87 (f := 0) rfl h1 (by rw [h3]; decide) hx
  rwa [add_none] at this
theorem fa87_1 {N : Nat} {ρ : Nat → Value} {w : World} {ty b o : Nat} {x : Operand} (hx : Ev N ρ x (.pointer (some ⟨b, o, none⟩))) : Ex Tryd.prog N ρ w (.fieldAddr 87 x 1) ty (.pointer (some ⟨b, o + 1, none⟩)) w := by
  obtain ⟨i0, h1, _, h3, _⟩ := inf17
  have := x_fieldAddr (ty := ty) (w := w) Tryd.underlying87 (f := 1) rfl h1 (by rw [h3]; decide) hx
  rwa [add_none] at this
theorem fa87_2 {N : Nat} {ρ : Nat → Value} {w : World} {ty b o : Nat} {x : Operand} (hx : Ev N ρ x (.pointer (some ⟨b, o, none⟩))) : Ex Tryd.prog N ρ w (.fieldAddr 87 x 2) ty (.pointer (some ⟨b, o + 2, none⟩)) w := by
  obtain ⟨i0, h1, _, h3, _⟩ := inf17
  have := x_fieldAddr (ty := ty) (w := w) Tryd.underlying87 (f := 2) rfl h1 (by rw [h3]; decide) hx
  rwa [add_none] at this
theorem fa87_3 {N : Nat} {ρ : Nat → Value} {w : World} {ty b o : Nat} {x : Operand} (hx : Ev N ρ x (.pointer (some ⟨b, o, none⟩))) : Ex Tryd.prog N ρ w (.fieldAddr 87 x 3) ty (.pointer (some ⟨b, o + 3, none⟩)) w := by
  obtain ⟨i0, h1, _, h3, _⟩ := inf9
  have := x_fieldAddr (ty := ty) (w := w) Tryd.underlying87 (f := 3) rfl h1 (by rw [h3]; decide) hx
  rwa [add_none] at this
theorem fa88_0 {N : Nat} {ρ : Nat → Value} {w : World} {ty b o : Nat} {x : Operand} (hx : Ev N ρ x (.pointer (some ⟨b, o, none⟩))) : Ex Tryd.prog N ρ w (.fieldAddr 88 x 0) ty (.pointer (some ⟨b, o + 0, none⟩)) w := by
  obtain ⟨i0, h1, _, h3, _⟩ := inf17
  have := x_fieldAddr (ty := ty) (w := w) Tryd.underlying88 (f := 0) rfl h1 (by rw [h3]; decide) hx
  rwa [add_none] at this
theorem fa88_1 {N : Nat} {ρ : Nat → Value} {w : World} {ty b o : Nat} {x : Operand} (hx : Ev N ρ x (.pointer (some ⟨b, o, none⟩))) : Ex Tryd.prog N ρ w (.fieldAddr 88 x 1) ty (.pointer (some ⟨b, o + 1, none⟩)) w := by
  obtain ⟨i0, h1, _, h3, _⟩ := inf17
  have := x_fieldAddr (ty := ty) (w := w) Tryd.underlying88 (f := 1) rfl h1 (by rw [h3]; decide) hx
  rwa [add_none] at this
theorem fa88_2 {N : Nat} {ρ : Nat → Value} {w : World} {ty b o : Nat} {x : Operand} (hx : Ev N ρ x (.pointer (some ⟨b, o, none⟩))) : Ex Tryd.prog N ρ w (.fieldAddr 88 x 2) ty (.pointer (some ⟨b, o + 2, none⟩)) w := by
  obtain ⟨i0, h1, _, h3, _⟩ := inf17
  have := x_fieldAddr (ty := ty) (w := w) Tryd.underlying88 (f := 2) rfl h1 (by rw [h3]; decide) hx
  rwa [add_none] at this
theorem fa88_3 {N : Nat} {ρ : Nat → Value} {w : World} {ty b o : Nat} {x : Operand} (hx : Ev N ρ x (.pointer (some ⟨b, o, none⟩))) : Ex Tryd.prog N ρ w (.fieldAddr 88 x 3) ty (.pointer (some ⟨b, o + 3, none⟩)) w := by
  obtain ⟨i0, h1, _, h3, _⟩ := inf9
  have := x_fieldAddr (ty := ty) (w := w) Tryd.underlying88 (f := 3) rfl h1 (by rw [h3]; decide) hx
  rwa [add_none] at this
theorem ix22 {N : Nat} {ρ : Nat → Value} {w : World} {ty b o n c : Nat} {A : Option Addr} {x y : Operand} {k : IntKind} {i : Int} (hx : Ev N ρ x (.slice A n c)) (hA : A = some ⟨b, o, none⟩) (hy : Ev N ρ y (.int k i)) (h0 : 0 ≤ i) (h1 : i < n) : Ex Tryd.prog N ρ w (.indexAddr 22 x y) ty (.pointer (some ⟨b, o + i.toNat * 1, none⟩)) w := by
  obtain ⟨i0, e1, _, e3, _⟩ := inf5
  subst hA
  have := x_indexAddr (ty := ty) (w := w) Tryd.underlying22 e1 hx hy h0 h1
  rwa [add_none, e3] at this
theorem ixo22 {N : Nat} {ρ : Nat → Value} {w : World} {ty b o o' n c : Nat} {A : Option Addr} {x y : Operand} {k : IntKind} {i : Int} (hx : Ev N ρ x (.slice A n c)) (hA : A = some ⟨b, o, none⟩) (hy : Ev N ρ y (.int k i)) (h0 : 0 ≤ i) (h1 : i < n) (ho : o + i.toNat * 1 = o') : Ex Tryd.prog N ρ w (.indexAddr 22 x y) ty (.pointer (some ⟨b, o', none⟩)) w := by
  subst ho
  exact ix22 hx hA hy h0 h1
theorem ix34 {N : Nat} {ρ : Nat → Value} {w : World} {ty b o n c : Nat} {A : Option Addr} {x y : Operand} {k : IntKind} {i : Int} (hx : Ev N ρ x (.slice A n c)) (hA : A = some ⟨b, o, none⟩) (hy : Ev N ρ y (.int k i)) (h0 : 0 ≤ i) (h1 : i < n) : Ex Tryd.prog N ρ w (.indexAddr 34 x y) ty (.pointer (some ⟨b, o + i.toNat * 1, none⟩)) w := by
  obtain ⟨i0, e1, _, e3, _⟩ := inf29
  subst hA
  have := x_indexAddr (ty := ty) (w := w) Tryd.underlying34 e1 hx hy h0 h1
  rwa [add_none, e3] at this
theorem ixo34 {N : Nat} {ρ : Nat → Value} {w : World} {ty b o o' n c : Nat} {A : Option Addr} {x y : Operand} {k : IntKind} {i : Int} (hx : Ev N ρ x (.slice A n c)) (hA : A = some ⟨b, o, none⟩) (hy : Ev N ρ y (.int k i)) (h0 : 0 ≤ i) (h1 : i < n) (ho : o + i.toNat * 1 = o') : Ex Tryd.prog N ρ w (.indexAddr 34 x y) ty (.pointer (some ⟨b, o', none⟩)) w := by
  subst ho
  exact ix34 hx hA hy h0 h1
theorem ix43 {N : Nat} {ρ : Nat → Value} {w : World} {ty b o n c : Nat} {A : Option Addr} {x y : Operand} {k : IntKind} {i : Int} (hx : Ev N ρ x (.slice A n c)) (hA : A = some ⟨b, o, none⟩) (hy : Ev N ρ y (.int k i)) (h0 : 0 ≤ i) (h1 : i < n) : Ex Tryd.prog N ρ w (.indexAddr 43 x y) ty (.pointer (some ⟨b, o + i.toNat * 1, none⟩)) w := by
  obtain ⟨i0, e1, _, e3, _⟩ := inf22
  subst hA
  have := x_indexAddr (ty := ty) (w := w) Tryd.underlying43 e1 hx hy h0 h1
  rwa [add_none, e3] at this
theorem ixo43 {N : Nat} {ρ : Nat → Value} {w : World} {ty b o o' n c : Nat} {A : Option Addr} {x y : Operand} {k : IntKind} {i : Int} (hx : Ev N ρ x (.slice A n c)) (hA : A = some ⟨b, o, none⟩) (hy : Ev N ρ y (.int k i)) (h0 : 0 ≤ i) (h1 : i < n) (ho : o + i.toNat * 1 = o') : Ex Tryd.prog N ρ w (.indexAddr 43 x y) ty (.pointer (some ⟨b, o', none⟩)) w := by
  subst ho
  exact ix43 hx hA hy h0 h1
theorem ix44 {N : Nat} {ρ : Nat → Value} {w : World} {ty b o n c : Nat} {A : Option Addr} {x y : Operand} {k : IntKind} {i : Int} (hx : Ev N ρ x (.slice A n c)) (hA : A = some ⟨b, o, none⟩) (hy : Ev N ρ y (.int k i)) (h0 : 0 ≤ i) (h1 : i < n) : Ex Tryd.prog N ρ w (.indexAddr 44 x y) ty (.pointer (some ⟨b, o + i.toNat * 1, none⟩)) w := by
  obtain ⟨i0, e1, _, e3, _⟩ := inf4
  subst hA
  have := x_indexAddr (ty := ty) (w := w) Tryd.underlying44 e1 hx hy h0 h1
  rwa [add_none, e3] at this
theorem ixo44 {N : Nat} {ρ : Nat → Value} {w : World} {ty b o o' n c : Nat} {A : Option Addr} {x y : Operand} {k : IntKind} {i : Int} (hx : Ev N ρ x (.slice A n c)) (hA : A = some ⟨b, o, none⟩) (hy : Ev N ρ y (.int k i)) (h0 : 0 ≤ i) (h1 : i < n) (ho : o + i.toNat * 1 = o') : Ex Tryd.prog N ρ w (.indexAddr 44 x y) ty (.pointer (some ⟨b, o', none⟩)) w := by
  subst ho
  exact ix44 hx hA hy h0 h1
theorem ix49 {N : Nat} {ρ : Nat → Value} {w : World} {ty b o n c : Nat} {A : Option Addr} {x y : Operand} {k : IntKind} {i : Int} (hx : Ev N ρ x (.slice A n c)) (hA : A = some ⟨b, o, none⟩) (hy : Ev N ρ y (.int k i)) (h0 : 0 ≤ i) (h1 : i < n) : Ex Tryd.prog N ρ w (.indexAddr 49 x y) ty (.pointer (some ⟨b, o + i.toNat * 4, none⟩)) w := by
  obtain ⟨i0, e1, _, e3, _⟩ := inf58
  subst hA
  have := x_indexAddr (ty := ty) (w := w) Tryd.underlying49 e1 hx hy h0 h1
  rwa [add_none, e3] at this
theorem ixo49 {N : Nat} {ρ : Nat → Value} {w : World} {ty b o o' n c : Nat} {A : Option Addr} {x y : Operand} {k : IntKind} {i : Int} (hx : Ev N ρ x (.slice A n c)) (hA : A = some ⟨b, o, none⟩) (hy : Ev N ρ y (.int k i)) (h0 : 0 ≤ i) (h1 : i < n) (ho : o + i.toNat * 4 = o') : Ex Tryd.prog N ρ w (.indexAddr 49 x y) ty (.pointer (some ⟨b, o', none⟩)) w := by
  subst ho
  exact ix49 hx hA hy h0 h1
theorem ix51 {N : Nat} {ρ : Nat → Value} {w : World} {ty b o n c : Nat} {A : Option Addr} {x y : Operand} {k : IntKind} {i : Int} (hx : Ev N ρ x (.slice A n c)) (hA : A = some ⟨b, o, none⟩) (hy : Ev N ρ y (.int k i)) (h0 : 0 ≤ i) (h1 : i < n) : Ex Tryd.prog N ρ w (.indexAddr 51 x y) ty (.pointer (some ⟨b, o + i.toNat * 3, none⟩)) w := by
  obtain ⟨i0, e1, _, e3, _⟩ := inf37
  subst hA
  have := x_indexAddr (ty := ty) (w := w) Tryd.underlying51 e1 hx hy h0 h1
  rwa [add_none, e3] at this
theorem ixo51 {N : Nat} {ρ : Nat → Value} {w : World} {ty b o o' n c : Nat} {A : Option Addr} {x y : Operand} {k : IntKind} {i : Int} (hx : Ev N ρ x (.slice A n c)) (hA : A = some ⟨b, o, none⟩) (hy : Ev N ρ y (.int k i)) (h0 : 0 ≤ i) (h1 : i < n) (ho : o + i.toNat * 3 = o') : Ex Tryd.prog N ρ w (.indexAddr 51 x y) ty (.pointer (some ⟨b, o', none⟩)) w := by
  subst ho
  exact ix51 hx hA hy h0 h1
theorem ix52 {N : Nat} {ρ : Nat → Value} {w : World} {ty b o n c : Nat} {A : Option Addr} {x y : Operand} {k : IntKind} {i : Int} (hx : Ev N ρ x (.slice A n c)) (hA : A = some ⟨b, o, none⟩) (hy : Ev N ρ y (.int k i)) (h0 : 0 ≤ i) (h1 : i < n) : Ex Tryd.prog N ρ w (.indexAddr 52 x y) ty (.pointer (some ⟨b, o + i.toNat * 1, none⟩)) w := by
  obtain ⟨i0, e1, _, e3, _⟩ := inf3
  subst hA
  have := x_indexAddr (ty := ty) (w := w) Tryd.underlying52 e1 hx hy h0 h1
  rwa [add_none, e3] at this
theorem ixo52 {N : Nat} {ρ : Nat → Value} {w : World} {ty b o o' n c : Nat} {A : Option Addr} {x y : Operand} {k : IntKind} {i : Int} (hx : Ev N ρ x (.slice A n c)) (hA : A = some ⟨b, o, none⟩) (hy : Ev N ρ y (.int k i)) (h0 : 0 ≤ i) (h1 : i < n) (ho : o + i.toNat * 1 = o') : Ex Tryd.prog N ρ w (.indexAddr 52 x y) ty (.pointer (some ⟨b, o', none⟩)) w := by
  subst ho
  exact ix52 hx hA hy h0 h1
theorem ix53 {N : Nat} {ρ : Nat → Value} {w : World} {ty b o : Nat} {x y : Operand} {k : IntKind} {i : Int} (hx : Ev N ρ x (.pointer (some ⟨b, o, none⟩))) (hy : Ev N ρ y (.int k i)) (h0 : 0 ≤ i) (h1 : i < 16) : Ex Tryd.prog N ρ w (.indexAddr 53 x y) ty (.pointer (some ⟨b, o + i.toNat * 1, none⟩)) w := by
  obtain ⟨i0, e1, _, e3, _⟩ := inf4
  have := x_indexAddrArr (ty := ty) (w := w) (n := 16) Tryd.underlying53 e1 hx hy h0 h1
  rwa [add_none, e3] at this
theorem ixo53 {N : Nat} {ρ : Nat → Value} {w : World} {ty b o o' : Nat} {x y : Operand} {k : IntKind} {i : Int} (hx : Ev N ρ x (.pointer (some ⟨b, o, none⟩))) (hy : Ev N ρ y (.int k i)) (h0 : 0 ≤ i) (h1 : i < 16) (ho : o + i.toNat * 1 = o') : Ex Tryd.prog N ρ w (.indexAddr 53 x y) ty (.pointer (some ⟨b, o', none⟩)) w := by
  subst ho
  exact ix53 hx hy h0 h1
theorem ix54 {N : Nat} {ρ : Nat → Value} {w : World} {ty b o : Nat} {x y : Operand} {k : IntKind} {i : Int} (hx : Ev N ρ x (.pointer (some ⟨b, o, none⟩))) (hy : Ev N ρ y (.int k i)) (h0 : 0 ≤ i) (h1 : i < 16) : Ex Tryd.prog N ρ w (.indexAddr 54 x y) ty (.pointer (some ⟨b, o + i.toNat * 16, none⟩)) w := by
  obtain ⟨i0, e1, _, e3, _⟩ := inf53
  have := x_indexAddrArr (ty := ty) (w := w) (n := 16) Tryd.underlying54 e1 hx hy h0 h1
  rwa [add_none, e3] at this
theorem ixo54 {N : Nat} {ρ : Nat → Value} {w : World} {ty b o o' : Nat} {x y : Operand} {k : IntKind} {i : Int} (hx : Ev N ρ x (.pointer (some ⟨b, o, none⟩))) (hy : Ev N ρ y (.int k i)) (h0 : 0 ≤ i) (h1 : i < 16) (ho : o + i.toNat * 16 = o') : Ex Tryd.prog N ρ w (.indexAddr 54 x y) ty (.pointer (some ⟨b, o', none⟩)) w := by
  subst ho
  exact ix54 hx hy h0 h1
theorem ix62 {N : Nat} {ρ : Nat → Value} {w : World} {ty b o : Nat} {x y : Operand} {k : IntKind} {i : Int} (hx : Ev N ρ x (.pointer (some ⟨b, o, none⟩))) (hy : Ev N ρ y (.int k i)) (h0 : 0 ≤ i) (h1 : i < 16) : Ex Tryd.prog N ρ w (.indexAddr 62 x y) ty (.pointer (some ⟨b, o + i.toNat * 1, none⟩)) w := by
  obtain ⟨i0, e1, _, e3, _⟩ := inf29
  have := x_indexAddrArr (ty := ty) (w := w) (n := 16) Tryd.underlying62 e1 hx hy h0 h1
  rwa [add_none, e3] at this
theorem ixo62 {N : Nat} {ρ : Nat → Value} {w : World} {ty b o o' : Nat} {x y : Operand} {k : IntKind} {i : Int} (hx : Ev N ρ x (.pointer (some ⟨b, o, none⟩))) (hy : Ev N ρ y (.int k i)) (h0 : 0 ≤ i) (h1 : i < 16) (ho : o + i.toNat * 1 = o') : Ex Tryd.prog N ρ w (.indexAddr 62 x y) ty (.pointer (some ⟨b, o', none⟩)) w := by
  subst ho
  exact ix62 hx hy h0 h1
theorem ix83 {N : Nat} {ρ : Nat → Value} {w : World} {ty b o : Nat} {x y : Operand} {k : IntKind} {i : Int} (hx : Ev N ρ x (.pointer (some ⟨b, o, none⟩))) (hy : Ev N ρ y (.int k i)) (h0 : 0 ≤ i) (h1 : i < 32) : Ex Tryd.prog N ρ w (.indexAddr 83 x y) ty (.pointer (some ⟨b, o + i.toNat * 1, none⟩)) w := by
  obtain ⟨i0, e1, _, e3, _⟩ := inf5
  have := x_indexAddrArr (ty := ty) (w := w) (n := 32) Tryd.underlying83 e1 hx hy h0 h1
  rwa [add_none, e3] at this
theorem ixo83 {N : Nat} {ρ : Nat → Value} {w : World} {ty b o o' : Nat} {x y : Operand} {k : IntKind} {i : Int} (hx : Ev N ρ x (.pointer (some ⟨b, o, none⟩))) (hy : Ev N ρ y (.int k i)) (h0 : 0 ≤ i) (h1 : i < 32) (ho : o + i.toNat * 1 = o') : Ex Tryd.prog N ρ w (.indexAddr 83 x y) ty (.pointer (some ⟨b, o', none⟩)) w := by
  subst ho
  exact ix83 hx hy h0 h1
theorem ix89 {N : Nat} {ρ : Nat → Value} {w : World} {ty b o : Nat} {x y : Operand} {k : IntKind} {i : Int} (hx : Ev N ρ x (.pointer (some ⟨b, o, none⟩))) (hy : Ev N ρ y (.int k i)) (h0 : 0 ≤ i) (h1 : i < 0) : Ex Tryd.prog N ρ w (.indexAddr 89 x y) ty (.pointer (some ⟨b, o + i.toNat * 1, none⟩)) w := by
  obtain ⟨i0, e1, _, e3, _⟩ := inf16
  have := x_indexAddrArr (ty := ty) (w := w) (n := 0) Tryd.underlying89 e1 hx hy h0 h1
  rwa [add_none, e3] at this
theorem ixo89 {N : Nat} {ρ : Nat → Value} {w : World} {ty b o o' : Nat} {x y : Operand} {k : IntKind} {i : Int} (hx : Ev N ρ x (.pointer (some ⟨b, o, none⟩))) (hy : Ev N ρ y (.int k i)) (h0 : 0 ≤ i) (h1 : i < 0) (ho : o + i.toNat * 1 = o') : Ex Tryd.prog N ρ w (.indexAddr 89 x y) ty (.pointer (some ⟨b, o', none⟩)) w := by
  subst ho
  exact ix89 hx hy h0 h1
theorem bl7 {N : Nat} {ρ : Nat → Value} {w : World} {ty : Nat} {parts : List (Nat × Operand)} {ps : List (Nat × Value)} {cs : List Value} (hps : Evp N ρ parts ps) (hf : fillL (([(0, 1), (1, 1), (2, 1), (3, 1)] : List (Nat × Nat))[·]?) [.int .i64 0, .int .i64 0, .bool false, .int .u8 0] ps = some cs) : Ex Tryd.prog N ρ w (.build 7 parts.toArray) ty (.agg cs.toArray) w :=
  x_bld (places := [(0, 1), (1, 1), (2, 1), (3, 1)]) Tryd.underlying7 inf7 hps (by kernel_rfl) hf
theorem bl8 {N : Nat} {ρ : Nat → Value} {w : World} {ty : Nat} {parts : List (Nat × Operand)} {ps : List (Nat × Value)} {cs : List Value} (hps : Evp N ρ parts ps) (hf : fillL (([(0, 1), (1, 1), (2, 1), (3, 1)] : List (Nat × Nat))[·]?) [.int .i64 0, .int .i64 0, .bool false, .int .u8 0] ps = some cs) : Ex Tryd.prog N ρ w (.build 8 parts.toArray) ty (.agg cs.toArray) w :=
  x_bld (places := [(0, 1), (1, 1), (2, 1), (3, 1)]) Tryd.underlying8 inf8 hps (by kernel_rfl) hf
theorem bl13 {N : Nat} {ρ : Nat → Value} {w : World} {ty : Nat} {parts : List (Nat × Operand)} {ps : List (Nat × Value)} {cs : List Value} (hps : Evp N ρ parts ps) (hf : fillL (([(0, 1), (1, 1)] : List (Nat × Nat))[·]?) [.string (⟨#[]⟩), .int .u64 0] ps = some cs) : Ex Tryd.prog N ρ w (.build 13 parts.toArray) ty (.agg cs.toArray) w :=
  x_bld (places := [(0, 1), (1, 1)]) Tryd.underlying13 inf13 hps (by kernel_rfl) hf
theorem bl14 {N : Nat} {ρ : Nat → Value} {w : World} {ty : Nat} {parts : List (Nat × Operand)} {ps : List (Nat × Value)} {cs : List Value} (hps : Evp N ρ parts ps) (hf : fillL (([(0, 1), (1, 1)] : List (Nat × Nat))[·]?) [.string (⟨#[]⟩), .int .u64 0] ps = some cs) : Ex Tryd.prog N ρ w (.build 14 parts.toArray) ty (.agg cs.toArray) w :=
  x_bld (places := [(0, 1), (1, 1)]) Tryd.underlying14 inf14 hps (by kernel_rfl) hf
theorem bl18 {N : Nat} {ρ : Nat → Value} {w : World} {ty : Nat} {parts : List (Nat × Operand)} {ps : List (Nat × Value)} {cs : List Value} (hps : Evp N ρ parts ps) (hf : fillL (([(0, 1)] : List (Nat × Nat))[·]?) [.pointer none] ps = some cs) : Ex Tryd.prog N ρ w (.build 18 parts.toArray) ty (.agg cs.toArray) w :=
  x_bld (places := [(0, 1)]) Tryd.underlying18 inf18 hps (by kernel_rfl) hf
theorem bl19 {N : Nat} {ρ : Nat → Value} {w : World} {ty : Nat} {parts : List (Nat × Operand)} {ps : List (Nat × Value)} {cs : List Value} (hps : Evp N ρ parts ps) (hf : fillL (([(0, 1)] : List (Nat × Nat))[·]?) [.pointer none] ps = some cs) : Ex Tryd.prog N ρ w (.build 19 parts.toArray) ty (.agg cs.toArray) w :=
  x_bld (places := [(0, 1)]) Tryd.underlying19 inf19 hps (by kernel_rfl) hf
theorem bl36 {N : Nat} {ρ : Nat → Value} {w : World} {ty : Nat} {parts : List (Nat × Operand)} {ps : List (Nat × Value)} {cs : List Value} (hps : Evp N ρ parts ps) (hf : fillL (([(0, 1), (1, 1), (2, 1)] : List (Nat × Nat))[·]?) [.int .i64 0, .int .i64 0, .slice none 0 0] ps = some cs) : Ex Tryd.prog N ρ w (.build 36 parts.toArray) ty (.agg cs.toArray) w :=
  x_bld (places := [(0, 1), (1, 1), (2, 1)]) Tryd.underlying36 inf36 hps (by kernel_rfl) hf
theorem bl37 {N : Nat} {ρ : Nat → Value} {w : World} {ty : Nat} {parts : List (Nat × Operand)} {ps : List (Nat × Value)} {cs : List Value} (hps : Evp N ρ parts ps) (hf : fillL (([(0, 1), (1, 1), (2, 1)] : List (Nat × Nat))[·]?) [.int .i64 0, .int .i64 0, .slice none 0 0] ps = some cs) : Ex Tryd.prog N ρ w (.build 37 parts.toArray) ty (.agg cs.toArray) w :=
  x_bld (places := [(0, 1), (1, 1), (2, 1)]) Tryd.underlying37 inf37 hps (by kernel_rfl) hf
theorem bl55 {N : Nat} {ρ : Nat → Value} {w : World} {ty : Nat} {parts : List (Nat × Operand)} {ps : List (Nat × Value)} {cs : List Value} (hps : Evp N ρ parts ps) (hf : fillL (([(0, 1), (1, 1), (2, 1), (3, 256), (259, 1)] : List (Nat × Nat))[·]?) [.int .i64 0, .slice none 0 0, .slice none 0 0, .bool false, .bool false, .bool false, .bool false, .bool false, .bool false, .bool false, .bool false, .bool false, .bool false, .bool false, .bool false, .bool false, .bool false, .bool false, .bool false, .bool false, .bool false, .bool false, .bool false, .bool false, .bool false, .bool false, .bool false, .bool false, .bool false, .bool false, .bool false, .bool false, .bool false, .bool false, .bool false, .bool false, .bool false, .bool false, .bool false, .bool false, .bool false, .bool false, .bool false, .bool false, .bool false, .bool false, .bool false, .bool false, .bool false, .bool false, .bool false, .bool false, .bool false, .bool false, .bool false, .bool false, .bool false, .bool false, .bool false, .bool false, .bool false, .bool false, .bool false, .bool false, .bool false, .bool false, .bool false, .bool false, .bool false, .bool false, .bool false, .bool false, .bool false, .bool false, .bool false, .bool false, .bool false, .bool false, .bool false, .bool false, .bool false, .bool false, .bool false, .bool false, .bool false, .bool false, .bool false, .bool false, .bool false, .bool false, .bool false, .bool false, .bool false, .bool false, .bool false, .bool false, .bool false, .bool false, .bool false, .bool false, .bool false, .bool false, .bool false, .bool false, .bool false, .bool false, .bool false, .bool false, .bool false, .bool false, .bool false, .bool false, .bool false, .bool false, .bool false, .bool false, .bool false, .bool false, .bool false, .bool false, .bool false, .bool false, .bool false, .bool false, .bool false, .bool false, .bool false, .bool false, .bool false, .bool false, .bool false, .bool false, .bool false, .bool false, .bool false, .bool false, .bool false, .bool false, .bool false, .bool false, .bool false, .bool false, .bool false, .bool false, .bool false, .bool false, .bool false, .bool false, .bool false, .bool false, .bool false, .bool false, .bool false, .bool false, .bool false, .bool false, .bool false, .bool false, .bool false, .bool false, .bool false, .bool false, .bool false, .bool false, .bool false, .bool false, .bool false, .bool false, .bool false, .bool false, .bool false, .bool false, .bool false, .bool false, .bool false, .bool false, .bool false, .bool false, .bool false, .bool false, .bool false, .bool false, .bool false, .bool false, .bool false, .bool false, .bool false, .bool false, .bool false, .bool false, .bool false, .bool false, .bool false, .bool false, .bool false, .bool false, .bool false, .bool false, .bool false, .bool false, .bool false, .bool false, .bool false, .bool false, .bool false, .bool false, .bool false, .bool false, .bool false, .bool false, .bool false, .bool false, .bool false, .bool false, .bool false, .bool false, .bool false, .bool false, .bool false, .bool false, .bool false, .bool false, .bool false, .bool false, .bool false, .bool false, .bool false, .bool false, .bool false, .bool false, .bool false, .bool false, .bool false, .bool false, .bool false, .bool false, .bool false, .bool false, .bool false, .bool false, .bool false, .bool false, .bool false, .bool false, .bool false, .bool false, .bool false, .bool false, .bool false, .bool false, .bool false, .bool false, .bool false, .bool false, .bool false, .bool false, .bool false, .bool false, .bool false, .int .i64 0] ps = some cs) : Ex Tryd.prog N ρ w (.build 55 parts.toArray) ty (.agg cs.toArray) w :=
  x_bld (places := [(0, 1), (1, 1), (2, 1), (3, 256), (259, 1)]) Tryd.underlying55 inf55 hps (by kernel_rfl) hf
theorem bl56 {N : Nat} {ρ : Nat → Value} {w : World} {ty : Nat} {parts : List (Nat × Operand)} {ps : List (Nat × Value)} {cs : List Value} (hps : Evp N ρ parts ps) (hf : fillL (([(0, 1), (1, 1), (2, 1), (3, 256), (259, 1)] : List (Nat × Nat))[·]?) [.int .i64 0, .slice none 0 0, .slice none 0 0, .bool false, .bool false, .bool false, .bool false, .bool false, .bool false, .bool false, .bool false, .bool false, .bool false, .bool false, .bool false, .bool false, .bool false, .bool false, .bool false, .bool false, .bool false, .bool false, .bool false, .bool false, .bool false, .bool false, .bool false, .bool false, .bool false, .bool false, .bool false, .bool false, .bool false, .bool false, .bool false, .bool false, .bool false, .bool false, .bool false, .bool false, .bool false, .bool false, .bool false, .bool false, .bool false, .bool false, .bool false, .bool false, .bool false, .bool false, .bool false, .bool false, .bool false, .bool false, .bool false, .bool false, .bool false, .bool false, .bool false, .bool false, .bool false, .bool false, .bool false, .bool false, .bool false, .bool false, .bool false, .bool false, .bool false, .bool false, .bool false, .bool false, .bool false, .bool false, .bool false, .bool false, .bool false, .bool false, .bool false, .bool false, .bool false, .bool false, .bool false, .bool false, .bool false, .bool false, .bool false, .bool false, .bool false, .bool false, .bool false, .bool false, .bool false, .bool false, .bool false, .bool false, .bool false, .bool false, .bool false, .bool false, .bool false, .bool false, .bool false, .bool false, .bool false, .bool false, .bool false, .bool false, .bool false, .bool false, .bool false, .bool false, .bool false, .bool false, .bool false, .bool false, .bool false, .bool false, .bool false, .bool false, .bool false, .bool false, .bool false, .bool false, .bool false, .bool false, .bool false, .bool false, .bool false, .bool false, .bool false, .bool false, .bool false, .bool false, .bool false, .bool false, .bool false, .bool false, .bool false, .bool false, .bool false, .bool false, .bool false, .bool false, .bool false, .bool false, .bool false, .bool false, .bool false, .bool false, .bool false, .bool false, .bool false, .bool false, .bool false, .bool false, .bool false, .bool false, .bool false, .bool false, .bool false, .bool false, .bool false, .bool false, .bool false, .bool false, .bool false, .bool false, .bool false, .bool false, .bool false, .bool false, .bool false, .bool false, .bool false, .bool false, .bool false, .bool false, .bool false, .bool false, .bool false, .bool false, .bool false, .bool false, .bool false, .bool false, .bool false, .bool false, .bool false, .bool false, .bool false, .bool false, .bool false, .bool false, .bool false, .bool false, .bool false, .bool false, .bool false, .bool false, .bool false, .bool false, .bool false, .bool false, .bool false, .bool false, .bool false, .bool false, .bool false, .bool false, .bool false, .bool false, .bool false, .bool false, .bool false, .bool false, .bool false, .bool false, .bool false, .bool false, .bool false, .bool false, .bool false, .bool false, .bool false, .bool false, .bool false, .bool false, .bool false, .bool false, .bool false, .bool false, .bool false, .bool false, .bool false, .bool false, .bool false, .bool false, .bool false, .bool false, .bool false, .bool false, .bool false, .bool false, .bool false, .bool false, .bool false, .bool false, .bool false, .bool false, .bool false, .bool false, .bool false, .bool false, .bool false, .bool false, .bool false, .bool false, .bool false, .int .i64 0] ps = some cs) : Ex Tryd.prog N ρ w (.build 56 parts.toArray) ty (.agg cs.toArray) w :=
  x_bld (places := [(0, 1), (1, 1), (2, 1), (3, 256), (259, 1)]) Tryd.underlying56 inf56 hps (by kernel_rfl) hf
theorem bl57 {N : Nat} {ρ : Nat → Value} {w : World} {ty : Nat} {parts : List (Nat × Operand)} {ps : List (Nat × Value)} {cs : List Value} (hps : Evp N ρ parts ps) (hf : fillL (([(0, 1), (1, 1), (2, 1), (3, 1)] : List (Nat × Nat))[·]?) [.int .u8 0, .int .i64 0, .int .i64 0, .slice none 0 0] ps = some cs) : Ex Tryd.prog N ρ w (.build 57 parts.toArray) ty (.agg cs.toArray) w :=
  x_bld (places := [(0, 1), (1, 1), (2, 1), (3, 1)]) Tryd.underlying57 inf57 hps (by kernel_rfl) hf
theorem bl58 {N : Nat} {ρ : Nat → Value} {w : World} {ty : Nat} {parts : List (Nat × Operand)} {ps : List (Nat × Value)} {cs : List Value} (hps : Evp N ρ parts ps) (hf : fillL (([(0, 1), (1, 1), (2, 1), (3, 1)] : List (Nat × Nat))[·]?) [.int .u8 0, .int .i64 0, .int .i64 0, .slice none 0 0] ps = some cs) : Ex Tryd.prog N ρ w (.build 58 parts.toArray) ty (.agg cs.toArray) w :=
  x_bld (places := [(0, 1), (1, 1), (2, 1), (3, 1)]) Tryd.underlying58 inf58 hps (by kernel_rfl) hf
theorem bl63 {N : Nat} {ρ : Nat → Value} {w : World} {ty : Nat} {parts : List (Nat × Operand)} {ps : List (Nat × Value)} {cs : List Value} (hps : Evp N ρ parts ps) (hf : fillL (([(0, 1), (1, 1), (2, 1), (3, 16), (19, 1)] : List (Nat × Nat))[·]?) [.int .i64 0, .slice none 0 0, .slice none 0 0, .int .u16 0, .int .u16 0, .int .u16 0, .int .u16 0, .int .u16 0, .int .u16 0, .int .u16 0, .int .u16 0, .int .u16 0, .int .u16 0, .int .u16 0, .int .u16 0, .int .u16 0, .int .u16 0, .int .u16 0, .int .u16 0, .int .i64 0] ps = some cs) : Ex Tryd.prog N ρ w (.build 63 parts.toArray) ty (.agg cs.toArray) w :=
  x_bld (places := [(0, 1), (1, 1), (2, 1), (3, 16), (19, 1)]) Tryd.underlying63 inf63 hps (by kernel_rfl) hf
theorem bl64 {N : Nat} {ρ : Nat → Value} {w : World} {ty : Nat} {parts : List (Nat × Operand)} {ps : List (Nat × Value)} {cs : List Value} (hps : Evp N ρ parts ps) (hf : fillL (([(0, 1), (1, 1), (2, 1), (3, 16), (19, 1)] : List (Nat × Nat))[·]?) [.int .i64 0, .slice none 0 0, .slice none 0 0, .int .u16 0, .int .u16 0, .int .u16 0, .int .u16 0, .int .u16 0, .int .u16 0, .int .u16 0, .int .u16 0, .int .u16 0, .int .u16 0, .int .u16 0, .int .u16 0, .int .u16 0, .int .u16 0, .int .u16 0, .int .u16 0, .int .i64 0] ps = some cs) : Ex Tryd.prog N ρ w (.build 64 parts.toArray) ty (.agg cs.toArray) w :=
  x_bld (places := [(0, 1), (1, 1), (2, 1), (3, 16), (19, 1)]) Tryd.underlying64 inf64 hps (by kernel_rfl) hf
theorem bl87 {N : Nat} {ρ : Nat → Value} {w : World} {ty : Nat} {parts : List (Nat × Operand)} {ps : List (Nat × Value)} {cs : List Value} (hps : Evp N ρ parts ps) (hf : fillL (([(0, 1), (1, 1), (2, 1), (3, 1)] : List (Nat × Nat))[·]?) [.pointer none, .pointer none, .pointer none, .string (⟨#[]⟩)] ps = some cs) : Ex Tryd.prog N ρ w (.build 87 parts.toArray) ty (.agg cs.toArray) w :=
  x_bld (places := [(0, 1), (1, 1), (2, 1), (3, 1)]) Tryd.underlying87 inf87 hps (by kernel_rfl) hf
theorem bl88 {N : Nat} {ρ : Nat → Value} {w : World} {ty : Nat} {parts : List (Nat × Operand)} {ps : List (Nat × Value)} {cs : List Value} (hps : Evp N ρ parts ps) (hf : fillL (([(0, 1), (1, 1), (2, 1), (3, 1)] : List (Nat × Nat))[·]?) [.pointer none, .pointer none, .pointer none, .string (⟨#[]⟩)] ps = some cs) : Ex Tryd.prog N ρ w (.build 88 parts.toArray) ty (.agg cs.toArray) w :=
  x_bld (places := [(0, 1), (1, 1), (2, 1), (3, 1)]) Tryd.underlying88 inf88 hps (by kernel_rfl) hf
theorem eqs7 (d : Nat) (w : World) (x0 y0 : Int) (x1 y1 : Int) (x2 y2 : Bool) (x3 y3 : Int) : (Op.equalIn (d + 2) 7 (.agg #[.int .i64 x0, .int .i64 x1, .bool x2, .int .u8 x3]) (.agg #[.int .i64 y0, .int .i64 y1, .bool y2, .int .u8 y3])).run Tryd.prog w = .ok (((x0 == y0) && ((x1 == y1) && ((x2 == y2) && ((x3 == y3) && true))))) w := by
  exact eq_struct (d := d + 1) Tryd.underlying7 (by kernel_rfl) (.cons (by kernel_rfl) (part_one (by kernel_rfl) rfl) (part_one (by kernel_rfl) rfl) (eq_int' (d := d + 0) Tryd.underlying2 _ _) (.cons (by kernel_rfl) (part_one (by kernel_rfl) rfl) (part_one (by kernel_rfl) rfl) (eq_int' (d := d + 0) Tryd.underlying3 _ _) (.cons (by kernel_rfl) (part_one (by kernel_rfl) rfl) (part_one (by kernel_rfl) rfl) (eq_bool' (d := d + 0) Tryd.underlying4 _ _) (.cons (by kernel_rfl) (part_one (by kernel_rfl) rfl) (part_one (by kernel_rfl) rfl) (eq_int' (d := d + 0) Tryd.underlying6 _ _) EqF.nil))))
theorem eqg7 : Tryd.prog.eqGuardType Tryd.prog.depth 7 = false := by kernel_rfl
theorem eqs8 (d : Nat) (w : World) (x0 y0 : Int) (x1 y1 : Int) (x2 y2 : Bool) (x3 y3 : Int) : (Op.equalIn (d + 2) 8 (.agg #[.int .i64 x0, .int .i64 x1, .bool x2, .int .u8 x3]) (.agg #[.int .i64 y0, .int .i64 y1, .bool y2, .int .u8 y3])).run Tryd.prog w = .ok (((x0 == y0) && ((x1 == y1) && ((x2 == y2) && ((x3 == y3) && true))))) w := by
  exact eq_struct (d := d + 1) Tryd.underlying8 (by kernel_rfl) (.cons (by kernel_rfl) (part_one (by kernel_rfl) rfl) (part_one (by kernel_rfl) rfl) (eq_int' (d := d + 0) Tryd.underlying2 _ _) (.cons (by kernel_rfl) (part_one (by kernel_rfl) rfl) (part_one (by kernel_rfl) rfl) (eq_int' (d := d + 0) Tryd.underlying3 _ _) (.cons (by kernel_rfl) (part_one (by kernel_rfl) rfl) (part_one (by kernel_rfl) rfl) (eq_bool' (d := d + 0) Tryd.underlying4 _ _) (.cons (by kernel_rfl) (part_one (by kernel_rfl) rfl) (part_one (by kernel_rfl) rfl) (eq_int' (d := d + 0) Tryd.underlying6 _ _) EqF.nil))))
theorem eqg8 : Tryd.prog.eqGuardType Tryd.prog.depth 8 = false := by kernel_rfl
theorem cb3 : Cb Tryd.prog 3 := ⟨Tryd.f3, Tryd.func3, by kernel_rfl, by kernel_rfl⟩
theorem cb4 : Cb Tryd.prog 4 := ⟨Tryd.f4, Tryd.func4, by kernel_rfl, by kernel_rfl⟩
theorem cb5 : Cb Tryd.prog 5 := ⟨Tryd.f5, Tryd.func5, by kernel_rfl, by kernel_rfl⟩
theorem cb6 : Cb Tryd.prog 6 := ⟨Tryd.f6, Tryd.func6, by kernel_rfl, by kernel_rfl⟩
theorem cb7 : Cb Tryd.prog 7 := ⟨Tryd.f7, Tryd.func7, by kernel_rfl, by kernel_rfl⟩
theorem cb8 : Cb Tryd.prog 8 := ⟨Tryd.f8, Tryd.func8, by kernel_rfl, by kernel_rfl⟩
theorem cb9 : Cb Tryd.prog 9 := ⟨Tryd.f9, Tryd.func9, by kernel_rfl, by kernel_rfl⟩
theorem cb10 : Cb Tryd.prog 10 := ⟨Tryd.f10, Tryd.func10, by kernel_rfl, by kernel_rfl⟩
theorem cb11 : Cb Tryd.prog 11 := ⟨Tryd.f11, Tryd.func11, by kernel_rfl, by kernel_rfl⟩
theorem cb12 : Cb Tryd.prog 12 := ⟨Tryd.f12, Tryd.func12, by kernel_rfl, by kernel_rfl⟩
theorem cb13 : Cb Tryd.prog 13 := ⟨Tryd.f13, Tryd.func13, by kernel_rfl, by kernel_rfl⟩
theorem cb14 : Cb Tryd.prog 14 := ⟨Tryd.f14, Tryd.func14, by kernel_rfl, by kernel_rfl⟩
theorem cb15 : Cb Tryd.prog 15 := ⟨Tryd.f15, Tryd.func15, by kernel_rfl, by kernel_rfl⟩
theorem cb16 : Cb Tryd.prog 16 := ⟨Tryd.f16, Tryd.func16, by kernel_rfl, by kernel_rfl⟩
theorem cb17 : Cb Tryd.prog 17 := ⟨Tryd.f17, Tryd.func17, by kernel_rfl, by kernel_rfl⟩
theorem cb18 : Cb Tryd.prog 18 := ⟨Tryd.f18, Tryd.func18, by kernel_rfl, by kernel_rfl⟩
theorem cb19 : Cb Tryd.prog 19 := ⟨Tryd.f19, Tryd.func19, by kernel_rfl, by kernel_rfl⟩
theorem cb20 : Cb Tryd.prog 20 := ⟨Tryd.f20, Tryd.func20, by kernel_rfl, by kernel_rfl⟩
theorem cb21 : Cb Tryd.prog 21 := ⟨Tryd.f21, Tryd.func21, by kernel_rfl, by kernel_rfl⟩
theorem cb22 : Cb Tryd.prog 22 := ⟨Tryd.f22, Tryd.func22, by kernel_rfl, by kernel_rfl⟩
theorem cb23 : Cb Tryd.prog 23 := ⟨Tryd.f23, Tryd.func23, by kernel_rfl, by kernel_rfl⟩
theorem cb24 : Cb Tryd.prog 24 := ⟨Tryd.f24, Tryd.func24, by kernel_rfl, by kernel_rfl⟩
theorem cb25 : Cb Tryd.prog 25 := ⟨Tryd.f25, Tryd.func25, by kernel_rfl, by kernel_rfl⟩
theorem cb26 : Cb Tryd.prog 26 := ⟨Tryd.f26, Tryd.func26, by kernel_rfl, by kernel_rfl⟩
theorem cb27 : Cb Tryd.prog 27 := ⟨Tryd.f27, Tryd.func27, by kernel_rfl, by kernel_rfl⟩
theorem cb28 : Cb Tryd.prog 28 := ⟨Tryd.f28, Tryd.func28, by kernel_rfl, by kernel_rfl⟩
theorem cb29 : Cb Tryd.prog 29 := ⟨Tryd.f29, Tryd.func29, by kernel_rfl, by kernel_rfl⟩
theorem cb30 : Cb Tryd.prog 30 := ⟨Tryd.f30, Tryd.func30, by kernel_rfl, by kernel_rfl⟩
theorem cb31 : Cb Tryd.prog 31 := ⟨Tryd.f31, Tryd.func31, by kernel_rfl, by kernel_rfl⟩
theorem cb32 : Cb Tryd.prog 32 := ⟨Tryd.f32, Tryd.func32, by kernel_rfl, by kernel_rfl⟩
theorem cb33 : Cb Tryd.prog 33 := ⟨Tryd.f33, Tryd.func33, by kernel_rfl, by kernel_rfl⟩
theorem cb34 : Cb Tryd.prog 34 := ⟨Tryd.f34, Tryd.func34, by kernel_rfl, by kernel_rfl⟩
theorem cb35 : Cb Tryd.prog 35 := ⟨Tryd.f35, Tryd.func35, by kernel_rfl, by kernel_rfl⟩
theorem cb36 : Cb Tryd.prog 36 := ⟨Tryd.f36, Tryd.func36, by kernel_rfl, by kernel_rfl⟩
theorem cb37 : Cb Tryd.prog 37 := ⟨Tryd.f37, Tryd.func37, by kernel_rfl, by kernel_rfl⟩
theorem cb38 : Cb Tryd.prog 38 := ⟨Tryd.f38, Tryd.func38, by kernel_rfl, by kernel_rfl⟩
theorem cb39 : Cb Tryd.prog 39 := ⟨Tryd.f39, Tryd.func39, by kernel_rfl, by kernel_rfl⟩
theorem cb40 : Cb Tryd.prog 40 := ⟨Tryd.f40, Tryd.func40, by kernel_rfl, by kernel_rfl⟩
theorem cb41 : Cb Tryd.prog 41 := ⟨Tryd.f41, Tryd.func41, by kernel_rfl, by kernel_rfl⟩
theorem cb42 : Cb Tryd.prog 42 := ⟨Tryd.f42, Tryd.func42, by kernel_rfl, by kernel_rfl⟩
theorem cb43 : Cb Tryd.prog 43 := ⟨Tryd.f43, Tryd.func43, by kernel_rfl, by kernel_rfl⟩
theorem cb44 : Cb Tryd.prog 44 := ⟨Tryd.f44, Tryd.func44, by kernel_rfl, by kernel_rfl⟩
theorem cb45 : Cb Tryd.prog 45 := ⟨Tryd.f45, Tryd.func45, by kernel_rfl, by kernel_rfl⟩
theorem cb46 : Cb Tryd.prog 46 := ⟨Tryd.f46, Tryd.func46, by kernel_rfl, by kernel_rfl⟩
theorem cb47 : Cb Tryd.prog 47 := ⟨Tryd.f47, Tryd.func47, by kernel_rfl, by kernel_rfl⟩
theorem cb48 : Cb Tryd.prog 48 := ⟨Tryd.f48, Tryd.func48, by kernel_rfl, by kernel_rfl⟩
theorem cb49 : Cb Tryd.prog 49 := ⟨Tryd.f49, Tryd.func49, by kernel_rfl, by kernel_rfl⟩
theorem cb50 : Cb Tryd.prog 50 := ⟨Tryd.f50, Tryd.func50, by kernel_rfl, by kernel_rfl⟩
theorem cb51 : Cb Tryd.prog 51 := ⟨Tryd.f51, Tryd.func51, by kernel_rfl, by kernel_rfl⟩
theorem cb52 : Cb Tryd.prog 52 := ⟨Tryd.f52, Tryd.func52, by kernel_rfl, by kernel_rfl⟩
theorem cb53 : Cb Tryd.prog 53 := ⟨Tryd.f53, Tryd.func53, by kernel_rfl, by kernel_rfl⟩
end Go.Proofs.YtojlmilkdijiaaaDoor
