/- Facts on the types and functions of this seat, printed by gen.py. -/
import Derived.Test.YtnikcgcbkdeeeaaDoorProg
import Derived.Test.YtnikcgcbkdeeeaaDoorFmE
set_option linter.unusedVariables false
set_option linter.unusedSimpArgs false
namespace Go.Proofs.YtnikcgcbkdeeeaaDoor
open Go Go.FM Go.Proofs
set_option maxRecDepth 100000
theorem mixed : Tryd.prog.follows .mixedOrders = true := by kernel_rfl
theorem inf2 : Inf Tryd.prog 2 (.int .i64 0) 1 8 := Inf.mk (by kernel_rfl)
theorem inf3 : Inf Tryd.prog 3 (.int .i64 0) 1 8 := Inf.mk (by kernel_rfl)
theorem inf4 : Inf Tryd.prog 4 (.bool false) 1 1 := Inf.mk (by kernel_rfl)
theorem inf5 : Inf Tryd.prog 5 (.int .u8 0) 1 1 := Inf.mk (by kernel_rfl)
theorem inf6 : Inf Tryd.prog 6 (.int .u8 0) 1 1 := Inf.mk (by kernel_rfl)
theorem inf7 : Inf Tryd.prog 7 (.agg #[.int .i64 0, .int .i64 0, .bool false, .int .u8 0]) 4 24 := Inf.mk (by kernel_rfl)
theorem inf8 : Inf Tryd.prog 8 (.agg #[.int .i64 0, .int .i64 0, .bool false, .int .u8 0]) 4 24 := Inf.mk (by kernel_rfl)
theorem inf9 : Inf Tryd.prog 9 (.string ⟨#[]⟩) 1 16 := Inf.mk (by kernel_rfl)
theorem inf10 : Inf Tryd.prog 10 (.string ⟨#[]⟩) 1 16 := Inf.mk (by kernel_rfl)
theorem inf11 : Inf Tryd.prog 11 (.string ⟨#[]⟩) 1 16 := Inf.mk (by kernel_rfl)
theorem inf12 : Inf Tryd.prog 12 (.int .u64 0) 1 8 := Inf.mk (by kernel_rfl)
theorem inf13 : Inf Tryd.prog 13 (.agg #[.string ⟨#[]⟩, .int .u64 0]) 2 24 := Inf.mk (by kernel_rfl)
theorem inf14 : Inf Tryd.prog 14 (.agg #[.string ⟨#[]⟩, .int .u64 0]) 2 24 := Inf.mk (by kernel_rfl)
theorem inf15 : Inf Tryd.prog 15 (.pointer none) 1 8 := Inf.mk (by kernel_rfl)
theorem inf16 : Inf Tryd.prog 16 (.pointer none) 1 8 := Inf.mk (by kernel_rfl)
theorem inf17 : Inf Tryd.prog 17 (.pointer none) 1 8 := Inf.mk (by kernel_rfl)
theorem inf18 : Inf Tryd.prog 18 (.agg #[.pointer none]) 1 8 := Inf.mk (by kernel_rfl)
theorem inf19 : Inf Tryd.prog 19 (.agg #[.pointer none]) 1 8 := Inf.mk (by kernel_rfl)
theorem inf21 : Inf Tryd.prog 21 (.int .i32 0) 1 4 := Inf.mk (by kernel_rfl)
theorem inf22 : Inf Tryd.prog 22 (.slice none 0 0) 1 24 := Inf.mk (by kernel_rfl)
theorem inf23 : Inf Tryd.prog 23 (.slice none 0 0) 1 24 := Inf.mk (by kernel_rfl)
theorem inf25 : Inf Tryd.prog 25 (.slice none 0 0) 1 24 := Inf.mk (by kernel_rfl)
theorem inf30 : Inf Tryd.prog 30 (.slice none 0 0) 1 24 := Inf.mk (by kernel_rfl)
theorem inf31 : Inf Tryd.prog 31 (.slice none 0 0) 1 24 := Inf.mk (by kernel_rfl)
theorem inf32 : Inf Tryd.prog 32 (.slice none 0 0) 1 24 := Inf.mk (by kernel_rfl)
theorem inf33 : Inf Tryd.prog 33 (.agg #[.int .i64 0, .slice none 0 0]) 2 32 := Inf.mk (by kernel_rfl)
theorem inf34 : Inf Tryd.prog 34 (.agg #[.int .i64 0, .slice none 0 0]) 2 32 := Inf.mk (by kernel_rfl)
theorem inf36 : Inf Tryd.prog 36 (.slice none 0 0) 1 24 := Inf.mk (by kernel_rfl)
theorem inf38 : Inf Tryd.prog 38 (.slice none 0 0) 1 24 := Inf.mk (by kernel_rfl)
theorem inf41 : Inf Tryd.prog 41 (.slice none 0 0) 1 24 := Inf.mk (by kernel_rfl)
theorem inf42 : Inf Tryd.prog 42 (.int .u64 0) 1 8 := Inf.mk (by kernel_rfl)
theorem inf43 : Inf Tryd.prog 43 (.agg #[.int .u64 0, .int .i64 0]) 2 16 := Inf.mk (by kernel_rfl)
theorem inf44 : Inf Tryd.prog 44 (.agg #[.int .u64 0, .int .i64 0]) 2 16 := Inf.mk (by kernel_rfl)
theorem inf45 : Inf Tryd.prog 45 (.int .u16 0) 1 2 := Inf.mk (by kernel_rfl)
theorem inf46 : Inf Tryd.prog 46 (.agg #[.int .u64 0, .int .i64 0, .int .u16 0]) 3 24 := Inf.mk (by kernel_rfl)
theorem inf47 : Inf Tryd.prog 47 (.agg #[.int .u64 0, .int .i64 0, .int .u16 0]) 3 24 := Inf.mk (by kernel_rfl)
theorem inf48 : Inf Tryd.prog 48 (.agg #[.int .u8 0, .int .u64 0, .int .i64 0, .int .u16 0, .int .i64 0, .slice none 0 0]) 6 64 := Inf.mk (by kernel_rfl)
theorem inf49 : Inf Tryd.prog 49 (.agg #[.int .u8 0, .int .u64 0, .int .i64 0, .int .u16 0, .int .i64 0, .slice none 0 0]) 6 64 := Inf.mk (by kernel_rfl)
theorem inf58 : Inf Tryd.prog 58 (.slice none 0 0) 1 24 := Inf.mk (by kernel_rfl)
theorem inf61 : Inf Tryd.prog 61 (.agg #[.int .i64 0, .int .u64 0, .int .i64 0, .int .u16 0, .slice none 0 0, .slice none 0 0, .int .i64 0, .int .u64 0, .int .i64 0]) 9 104 := Inf.mk (by kernel_rfl)
theorem inf62 : Inf Tryd.prog 62 (.agg #[.int .i64 0, .int .u64 0, .int .i64 0, .int .u16 0, .slice none 0 0, .slice none 0 0, .int .i64 0, .int .u64 0, .int .i64 0]) 9 104 := Inf.mk (by kernel_rfl)
theorem inf65 : Inf Tryd.prog 65 (.slice none 0 0) 1 24 := Inf.mk (by kernel_rfl)
theorem inf66 : Inf Tryd.prog 66 (.agg #[.int .u16 0, .slice none 0 0, .slice none 0 0, .slice none 0 0]) 4 80 := Inf.mk (by kernel_rfl)
theorem inf67 : Inf Tryd.prog 67 (.agg #[.int .u16 0, .slice none 0 0, .slice none 0 0, .slice none 0 0]) 4 80 := Inf.mk (by kernel_rfl)
theorem inf68 : Inf Tryd.prog 68 (.agg #[.int .u8 0, .slice none 0 0]) 2 32 := Inf.mk (by kernel_rfl)
theorem inf69 : Inf Tryd.prog 69 (.agg #[.int .u8 0, .slice none 0 0]) 2 32 := Inf.mk (by kernel_rfl)
theorem inf72 : Inf Tryd.prog 72 (.pointer none) 1 8 := Inf.mk (by kernel_rfl)
theorem inf73 : Inf Tryd.prog 73 (.agg #[.int .i64 0, .int .i64 0, .int .i64 0, .int .i64 0, .int .i64 0, .int .i64 0, .int .i64 0, .int .i64 0, .int .i64 0, .int .i64 0, .int .i64 0, .int .i64 0, .int .i64 0, .int .i64 0, .int .i64 0, .int .i64 0]) 16 128 := Inf.mk (by kernel_rfl)
theorem inf79 : Inf Tryd.prog 79 (.slice none 0 0) 1 24 := Inf.mk (by kernel_rfl)
theorem inf94 : Inf Tryd.prog 94 (.agg #[.int .u8 0, .int .u8 0, .int .u8 0, .int .u8 0, .int .u8 0, .int .u8 0, .int .u8 0, .int .u8 0, .int .u8 0, .int .u8 0, .int .u8 0, .int .u8 0, .int .u8 0, .int .u8 0, .int .u8 0, .int .u8 0, .int .u8 0, .int .u8 0, .int .u8 0, .int .u8 0, .int .u8 0, .int .u8 0, .int .u8 0, .int .u8 0, .int .u8 0, .int .u8 0, .int .u8 0, .int .u8 0, .int .u8 0, .int .u8 0, .int .u8 0, .int .u8 0]) 32 32 := Inf.mk (by kernel_rfl)
theorem inf95 : Inf Tryd.prog 95 (.int .u32 0) 1 4 := Inf.mk (by kernel_rfl)
theorem inf96 : Inf Tryd.prog 96 (.int .u64 0) 1 8 := Inf.mk (by kernel_rfl)
theorem inf98 : Inf Tryd.prog 98 (.agg #[.pointer none, .pointer none, .pointer none, .string ⟨#[]⟩]) 4 40 := Inf.mk (by kernel_rfl)
theorem inf99 : Inf Tryd.prog 99 (.agg #[.pointer none, .pointer none, .pointer none, .string ⟨#[]⟩]) 4 40 := Inf.mk (by kernel_rfl)
theorem inf100 : Inf Tryd.prog 100 (.agg #[]) 0 0 := Inf.mk (by kernel_rfl)
theorem inf104 : Inf Tryd.prog 104 (.int .u8 0) 1 1 := Inf.mk (by kernel_rfl)
theorem inf105 : Inf Tryd.prog 105 (.int .u8 0) 1 1 := Inf.mk (by kernel_rfl)
theorem inf107 : Inf Tryd.prog 107 (.pointer none) 1 8 := Inf.mk (by kernel_rfl)
theorem inf108 : Inf Tryd.prog 108 (.int .i32 0) 1 4 := Inf.mk (by kernel_rfl)
theorem inf109 : Inf Tryd.prog 109 (.int .i32 0) 1 4 := Inf.mk (by kernel_rfl)
theorem sc2 : scalarT Tryd.prog 2 = true := by kernel_rfl
theorem ld2 {N : Nat} {ρ : Nat → Value} {w : World} {ty : Nat} {x : Operand} {ad : Addr} {v : Value} (hx : Ev N ρ x (.pointer (some ad))) (hc : w.cell? ad = some v) : Ex Tryd.prog N ρ w (.load 2 x) ty v w := x_load sc2 hx hc
theorem sto2 {N : Nat} {ρ : Nat → Value} {H : Hp} {w : World} {L : List Res} {g T ty i : Nat} {x y : Operand} {cs cs' : List Value} {v : Value} (h : St H w (obj g T cs :: L)) (hx : Ev N ρ x (.pointer (some ⟨g, i, none⟩))) (hy : Ev N ρ y v) (hsz : v.cells.size = 1) (hl : i + 1 ≤ cs.length) (h1 : ∀ u ∈ v.cells.toList, u.oneCell' = true) (hsp : splice cs i v.cells.toList = cs') : ∃ w', Ex0 Tryd.prog N ρ w (.store 2 x y) ty w' ∧ St H w' (obj g T cs' :: L) := by
  obtain ⟨i0, e1, _, e3, _⟩ := inf2
  exact m_store e1 h hx hy (by rw [e3]; exact hsz) (by rw [e3]; exact hl) h1 hsp
theorem stor2 {N : Nat} {ρ : Nat → Value} {H : Hp} {w : World} {L : List Res} {g e size n cap ty i : Nat} {x y : Operand} {xs xs' : List Value} {v u : Value} (h : St H w (row e size v n xs :: L)) (hv : v = .slice (some ⟨g, 0, none⟩) n cap) (hx : Ev N ρ x (.pointer (some ⟨g, i, none⟩))) (hy : Ev N ρ y u) (hsz : u.cells.size = 1) (hl : i + 1 ≤ xs.length) (h1 : ∀ u' ∈ u.cells.toList, u'.oneCell' = true) (hsp : splice xs i u.cells.toList = xs') : ∃ w', Ex0 Tryd.prog N ρ w (.store 2 x y) ty w' ∧ St H w' (row e size v n xs' :: L) := by
  obtain ⟨i0, e1, _, e3, _⟩ := inf2
  exact m_storeRow e1 h hv hx hy (by rw [e3]; exact hsz) (by rw [e3]; exact hl) h1 hsp
theorem al2 {N : Nat} {ρ : Nat → Value} {H : Hp} {w : World} {L : List Res} {ty : Nat} {cs : List Value} (h : St H w L) (hv : (.int .i64 0 : Value).cells = cs.toArray) : ∃ v' w', Ex Tryd.prog N ρ w (.alloc 2) ty v' w' ∧ ∃ g, v' = .pointer (some ⟨g, 0, none⟩) ∧ St H w' (obj g 2 cs :: L) := by
  obtain ⟨i0, e1, e2, _, _⟩ := inf2
  exact m_alloc e1 e2 h hv
theorem sc3 : scalarT Tryd.prog 3 = true := by kernel_rfl
theorem ld3 {N : Nat} {ρ : Nat → Value} {w : World} {ty : Nat} {x : Operand} {ad : Addr} {v : Value} (hx : Ev N ρ x (.pointer (some ad))) (hc : w.cell? ad = some v) : Ex Tryd.prog N ρ w (.load 3 x) ty v w := x_load sc3 hx hc
theorem sto3 {N : Nat} {ρ : Nat → Value} {H : Hp} {w : World} {L : List Res} {g T ty i : Nat} {x y : Operand} {cs cs' : List Value} {v : Value} (h : St H w (obj g T cs :: L)) (hx : Ev N ρ x (.pointer (some ⟨g, i, none⟩))) (hy : Ev N ρ y v) (hsz : v.cells.size = 1) (hl : i + 1 ≤ cs.length) (h1 : ∀ u ∈ v.cells.toList, u.oneCell' = true) (hsp : splice cs i v.cells.toList = cs') : ∃ w', Ex0 Tryd.prog N ρ w (.store 3 x y) ty w' ∧ St H w' (obj g T cs' :: L) := by
  obtain ⟨i0, e1, _, e3, _⟩ := inf3
  exact m_store e1 h hx hy (by rw [e3]; exact hsz) (by rw [e3]; exact hl) h1 hsp
theorem stor3 {N : Nat} {ρ : Nat → Value} {H : Hp} {w : World} {L : List Res} {g e size n cap ty i : Nat} {x y : Operand} {xs xs' : List Value} {v u : Value} (h : St H w (row e size v n xs :: L)) (hv : v = .slice (some ⟨g, 0, none⟩) n cap) (hx : Ev N ρ x (.pointer (some ⟨g, i, none⟩))) (hy : Ev N ρ y u) (hsz : u.cells.size = 1) (hl : i + 1 ≤ xs.length) (h1 : ∀ u' ∈ u.cells.toList, u'.oneCell' = true) (hsp : splice xs i u.cells.toList = xs') : ∃ w', Ex0 Tryd.prog N ρ w (.store 3 x y) ty w' ∧ St H w' (row e size v n xs' :: L) := by
  obtain ⟨i0, e1, _, e3, _⟩ := inf3
  exact m_storeRow e1 h hv hx hy (by rw [e3]; exact hsz) (by rw [e3]; exact hl) h1 hsp
theorem al3 {N : Nat} {ρ : Nat → Value} {H : Hp} {w : World} {L : List Res} {ty : Nat} {cs : List Value} (h : St H w L) (hv : (.int .i64 0 : Value).cells = cs.toArray) : ∃ v' w', Ex Tryd.prog N ρ w (.alloc 3) ty v' w' ∧ ∃ g, v' = .pointer (some ⟨g, 0, none⟩) ∧ St H w' (obj g 3 cs :: L) := by
  obtain ⟨i0, e1, e2, _, _⟩ := inf3
  exact m_alloc e1 e2 h hv
theorem sc4 : scalarT Tryd.prog 4 = true := by kernel_rfl
theorem ld4 {N : Nat} {ρ : Nat → Value} {w : World} {ty : Nat} {x : Operand} {ad : Addr} {v : Value} (hx : Ev N ρ x (.pointer (some ad))) (hc : w.cell? ad = some v) : Ex Tryd.prog N ρ w (.load 4 x) ty v w := x_load sc4 hx hc
theorem sto4 {N : Nat} {ρ : Nat → Value} {H : Hp} {w : World} {L : List Res} {g T ty i : Nat} {x y : Operand} {cs cs' : List Value} {v : Value} (h : St H w (obj g T cs :: L)) (hx : Ev N ρ x (.pointer (some ⟨g, i, none⟩))) (hy : Ev N ρ y v) (hsz : v.cells.size = 1) (hl : i + 1 ≤ cs.length) (h1 : ∀ u ∈ v.cells.toList, u.oneCell' = true) (hsp : splice cs i v.cells.toList = cs') : ∃ w', Ex0 Tryd.prog N ρ w (.store 4 x y) ty w' ∧ St H w' (obj g T cs' :: L) := by
  obtain ⟨i0, e1, _, e3, _⟩ := inf4
  exact m_store e1 h hx hy (by rw [e3]; exact hsz) (by rw [e3]; exact hl) h1 hsp
theorem stor4 {N : Nat} {ρ : Nat → Value} {H : Hp} {w : World} {L : List Res} {g e size n cap ty i : Nat} {x y : Operand} {xs xs' : List Value} {v u : Value} (h : St H w (row e size v n xs :: L)) (hv : v = .slice (some ⟨g, 0, none⟩) n cap) (hx : Ev N ρ x (.pointer (some ⟨g, i, none⟩))) (hy : Ev N ρ y u) (hsz : u.cells.size = 1) (hl : i + 1 ≤ xs.length) (h1 : ∀ u' ∈ u.cells.toList, u'.oneCell' = true) (hsp : splice xs i u.cells.toList = xs') : ∃ w', Ex0 Tryd.prog N ρ w (.store 4 x y) ty w' ∧ St H w' (row e size v n xs' :: L) := by
  obtain ⟨i0, e1, _, e3, _⟩ := inf4
  exact m_storeRow e1 h hv hx hy (by rw [e3]; exact hsz) (by rw [e3]; exact hl) h1 hsp
theorem al4 {N : Nat} {ρ : Nat → Value} {H : Hp} {w : World} {L : List Res} {ty : Nat} {cs : List Value} (h : St H w L) (hv : (.bool false : Value).cells = cs.toArray) : ∃ v' w', Ex Tryd.prog N ρ w (.alloc 4) ty v' w' ∧ ∃ g, v' = .pointer (some ⟨g, 0, none⟩) ∧ St H w' (obj g 4 cs :: L) := by
  obtain ⟨i0, e1, e2, _, _⟩ := inf4
  exact m_alloc e1 e2 h hv
theorem sc5 : scalarT Tryd.prog 5 = true := by kernel_rfl
theorem ld5 {N : Nat} {ρ : Nat → Value} {w : World} {ty : Nat} {x : Operand} {ad : Addr} {v : Value} (hx : Ev N ρ x (.pointer (some ad))) (hc : w.cell? ad = some v) : Ex Tryd.prog N ρ w (.load 5 x) ty v w := x_load sc5 hx hc
theorem sto5 {N : Nat} {ρ : Nat → Value} {H : Hp} {w : World} {L : List Res} {g T ty i : Nat} {x y : Operand} {cs cs' : List Value} {v : Value} (h : St H w (obj g T cs :: L)) (hx : Ev N ρ x (.pointer (some ⟨g, i, none⟩))) (hy : Ev N ρ y v) (hsz : v.cells.size = 1) (hl : i + 1 ≤ cs.length) (h1 : ∀ u ∈ v.cells.toList, u.oneCell' = true) (hsp : splice cs i v.cells.toList = cs') : ∃ w', Ex0 Tryd.prog N ρ w (.store 5 x y) ty w' ∧ St H w' (obj g T cs' :: L) := by
  obtain ⟨i0, e1, _, e3, _⟩ := inf5
  exact m_store e1 h hx hy (by rw [e3]; exact hsz) (by rw [e3]; exact hl) h1 hsp
theorem stor5 {N : Nat} {ρ : Nat → Value} {H : Hp} {w : World} {L : List Res} {g e size n cap ty i : Nat} {x y : Operand} {xs xs' : List Value} {v u : Value} (h : St H w (row e size v n xs :: L)) (hv : v = .slice (some ⟨g, 0, none⟩) n cap) (hx : Ev N ρ x (.pointer (some ⟨g, i, none⟩))) (hy : Ev N ρ y u) (hsz : u.cells.size = 1) (hl : i + 1 ≤ xs.length) (h1 : ∀ u' ∈ u.cells.toList, u'.oneCell' = true) (hsp : splice xs i u.cells.toList = xs') : ∃ w', Ex0 Tryd.prog N ρ w (.store 5 x y) ty w' ∧ St H w' (row e size v n xs' :: L) := by
  obtain ⟨i0, e1, _, e3, _⟩ := inf5
  exact m_storeRow e1 h hv hx hy (by rw [e3]; exact hsz) (by rw [e3]; exact hl) h1 hsp
theorem al5 {N : Nat} {ρ : Nat → Value} {H : Hp} {w : World} {L : List Res} {ty : Nat} {cs : List Value} (h : St H w L) (hv : (.int .u8 0 : Value).cells = cs.toArray) : ∃ v' w', Ex Tryd.prog N ρ w (.alloc 5) ty v' w' ∧ ∃ g, v' = .pointer (some ⟨g, 0, none⟩) ∧ St H w' (obj g 5 cs :: L) := by
  obtain ⟨i0, e1, e2, _, _⟩ := inf5
  exact m_alloc e1 e2 h hv
theorem sc6 : scalarT Tryd.prog 6 = true := by kernel_rfl
theorem ld6 {N : Nat} {ρ : Nat → Value} {w : World} {ty : Nat} {x : Operand} {ad : Addr} {v : Value} (hx : Ev N ρ x (.pointer (some ad))) (hc : w.cell? ad = some v) : Ex Tryd.prog N ρ w (.load 6 x) ty v w := x_load sc6 hx hc
theorem sto6 {N : Nat} {ρ : Nat → Value} {H : Hp} {w : World} {L : List Res} {g T ty i : Nat} {x y : Operand} {cs cs' : List Value} {v : Value} (h : St H w (obj g T cs :: L)) (hx : Ev N ρ x (.pointer (some ⟨g, i, none⟩))) (hy : Ev N ρ y v) (hsz : v.cells.size = 1) (hl : i + 1 ≤ cs.length) (h1 : ∀ u ∈ v.cells.toList, u.oneCell' = true) (hsp : splice cs i v.cells.toList = cs') : ∃ w', Ex0 Tryd.prog N ρ w (.store 6 x y) ty w' ∧ St H w' (obj g T cs' :: L) := by
  obtain ⟨i0, e1, _, e3, _⟩ := inf6
  exact m_store e1 h hx hy (by rw [e3]; exact hsz) (by rw [e3]; exact hl) h1 hsp
theorem stor6 {N : Nat} {ρ : Nat → Value} {H : Hp} {w : World} {L : List Res} {g e size n cap ty i : Nat} {x y : Operand} {xs xs' : List Value} {v u : Value} (h : St H w (row e size v n xs :: L)) (hv : v = .slice (some ⟨g, 0, none⟩) n cap) (hx : Ev N ρ x (.pointer (some ⟨g, i, none⟩))) (hy : Ev N ρ y u) (hsz : u.cells.size = 1) (hl : i + 1 ≤ xs.length) (h1 : ∀ u' ∈ u.cells.toList, u'.oneCell' = true) (hsp : splice xs i u.cells.toList = xs') : ∃ w', Ex0 Tryd.prog N ρ w (.store 6 x y) ty w' ∧ St H w' (row e size v n xs' :: L) := by
  obtain ⟨i0, e1, _, e3, _⟩ := inf6
  exact m_storeRow e1 h hv hx hy (by rw [e3]; exact hsz) (by rw [e3]; exact hl) h1 hsp
theorem al6 {N : Nat} {ρ : Nat → Value} {H : Hp} {w : World} {L : List Res} {ty : Nat} {cs : List Value} (h : St H w L) (hv : (.int .u8 0 : Value).cells = cs.toArray) : ∃ v' w', Ex Tryd.prog N ρ w (.alloc 6) ty v' w' ∧ ∃ g, v' = .pointer (some ⟨g, 0, none⟩) ∧ St H w' (obj g 6 cs :: L) := by
  obtain ⟨i0, e1, e2, _, _⟩ := inf6
  exact m_alloc e1 e2 h hv
theorem ag7 : aggT Tryd.prog 7 = true := by kernel_rfl
theorem ld7 {N : Nat} {ρ : Nat → Value} {w : World} {ty : Nat} {x : Operand} {ad : Addr} {cs : List Value} (hx : Ev N ρ x (.pointer (some ad))) (hc : At w ad cs) (hl : cs.length = 4) : Ex Tryd.prog N ρ w (.load 7 x) ty (.agg cs.toArray) w := by
  obtain ⟨i0, h1, _, h3, _⟩ := inf7
  exact x_loadA ag7 h1 hx hc (by rw [h3]; exact hl)
theorem lv7 {w : World} {ad : Addr} {cs : List Value} (hc : At w ad cs) (hl : cs.length = 4) : (loadVar 7 ad).run Tryd.prog w = .ok (.agg cs.toArray) w := by
  obtain ⟨i0, h1, _, h3, _⟩ := inf7
  exact run_loadVar_t ag7 h1 hc (by rw [h3]; exact hl)
theorem sto7 {N : Nat} {ρ : Nat → Value} {H : Hp} {w : World} {L : List Res} {g T ty i : Nat} {x y : Operand} {cs cs' : List Value} {v : Value} (h : St H w (obj g T cs :: L)) (hx : Ev N ρ x (.pointer (some ⟨g, i, none⟩))) (hy : Ev N ρ y v) (hsz : v.cells.size = 4) (hl : i + 4 ≤ cs.length) (h1 : ∀ u ∈ v.cells.toList, u.oneCell' = true) (hsp : splice cs i v.cells.toList = cs') : ∃ w', Ex0 Tryd.prog N ρ w (.store 7 x y) ty w' ∧ St H w' (obj g T cs' :: L) := by
  obtain ⟨i0, e1, _, e3, _⟩ := inf7
  exact m_store e1 h hx hy (by rw [e3]; exact hsz) (by rw [e3]; exact hl) h1 hsp
theorem stor7 {N : Nat} {ρ : Nat → Value} {H : Hp} {w : World} {L : List Res} {g e size n cap ty i : Nat} {x y : Operand} {xs xs' : List Value} {v u : Value} (h : St H w (row e size v n xs :: L)) (hv : v = .slice (some ⟨g, 0, none⟩) n cap) (hx : Ev N ρ x (.pointer (some ⟨g, i, none⟩))) (hy : Ev N ρ y u) (hsz : u.cells.size = 4) (hl : i + 4 ≤ xs.length) (h1 : ∀ u' ∈ u.cells.toList, u'.oneCell' = true) (hsp : splice xs i u.cells.toList = xs') : ∃ w', Ex0 Tryd.prog N ρ w (.store 7 x y) ty w' ∧ St H w' (row e size v n xs' :: L) := by
  obtain ⟨i0, e1, _, e3, _⟩ := inf7
  exact m_storeRow e1 h hv hx hy (by rw [e3]; exact hsz) (by rw [e3]; exact hl) h1 hsp
theorem al7 {N : Nat} {ρ : Nat → Value} {H : Hp} {w : World} {L : List Res} {ty : Nat} {cs : List Value} (h : St H w L) (hv : (.agg #[.int .i64 0, .int .i64 0, .bool false, .int .u8 0] : Value).cells = cs.toArray) : ∃ v' w', Ex Tryd.prog N ρ w (.alloc 7) ty v' w' ∧ ∃ g, v' = .pointer (some ⟨g, 0, none⟩) ∧ St H w' (obj g 7 cs :: L) := by
  obtain ⟨i0, e1, e2, _, _⟩ := inf7
  exact m_alloc e1 e2 h hv
theorem ag8 : aggT Tryd.prog 8 = true := by kernel_rfl
theorem ld8 {N : Nat} {ρ : Nat → Value} {w : World} {ty : Nat} {x : Operand} {ad : Addr} {cs : List Value} (hx : Ev N ρ x (.pointer (some ad))) (hc : At w ad cs) (hl : cs.length = 4) : Ex Tryd.prog N ρ w (.load 8 x) ty (.agg cs.toArray) w := by
  obtain ⟨i0, h1, _, h3, _⟩ := inf8
  exact x_loadA ag8 h1 hx hc (by rw [h3]; exact hl)
theorem lv8 {w : World} {ad : Addr} {cs : List Value} (hc : At w ad cs) (hl : cs.length = 4) : (loadVar 8 ad).run Tryd.prog w = .ok (.agg cs.toArray) w := by
  obtain ⟨i0, h1, _, h3, _⟩ := inf8
  exact run_loadVar_t ag8 h1 hc (by rw [h3]; exact hl)
theorem sto8 {N : Nat} {ρ : Nat → Value} {H : Hp} {w : World} {L : List Res} {g T ty i : Nat} {x y : Operand} {cs cs' : List Value} {v : Value} (h : St H w (obj g T cs :: L)) (hx : Ev N ρ x (.pointer (some ⟨g, i, none⟩))) (hy : Ev N ρ y v) (hsz : v.cells.size = 4) (hl : i + 4 ≤ cs.length) (h1 : ∀ u ∈ v.cells.toList, u.oneCell' = true) (hsp : splice cs i v.cells.toList = cs') : ∃ w', Ex0 Tryd.prog N ρ w (.store 8 x y) ty w' ∧ St H w' (obj g T cs' :: L) := by
  obtain ⟨i0, e1, _, e3, _⟩ := inf8
  exact m_store e1 h hx hy (by rw [e3]; exact hsz) (by rw [e3]; exact hl) h1 hsp
theorem stor8 {N : Nat} {ρ : Nat → Value} {H : Hp} {w : World} {L : List Res} {g e size n cap ty i : Nat} {x y : Operand} {xs xs' : List Value} {v u : Value} (h : St H w (row e size v n xs :: L)) (hv : v = .slice (some ⟨g, 0, none⟩) n cap) (hx : Ev N ρ x (.pointer (some ⟨g, i, none⟩))) (hy : Ev N ρ y u) (hsz : u.cells.size = 4) (hl : i + 4 ≤ xs.length) (h1 : ∀ u' ∈ u.cells.toList, u'.oneCell' = true) (hsp : splice xs i u.cells.toList = xs') : ∃ w', Ex0 Tryd.prog N ρ w (.store 8 x y) ty w' ∧ St H w' (row e size v n xs' :: L) := by
  obtain ⟨i0, e1, _, e3, _⟩ := inf8
  exact m_storeRow e1 h hv hx hy (by rw [e3]; exact hsz) (by rw [e3]; exact hl) h1 hsp
theorem al8 {N : Nat} {ρ : Nat → Value} {H : Hp} {w : World} {L : List Res} {ty : Nat} {cs : List Value} (h : St H w L) (hv : (.agg #[.int .i64 0, .int .i64 0, .bool false, .int .u8 0] : Value).cells = cs.toArray) : ∃ v' w', Ex Tryd.prog N ρ w (.alloc 8) ty v' w' ∧ ∃ g, v' = .pointer (some ⟨g, 0, none⟩) ∧ St H w' (obj g 8 cs :: L) := by
  obtain ⟨i0, e1, e2, _, _⟩ := inf8
  exact m_alloc e1 e2 h hv
theorem sc9 : scalarT Tryd.prog 9 = true := by kernel_rfl
theorem ld9 {N : Nat} {ρ : Nat → Value} {w : World} {ty : Nat} {x : Operand} {ad : Addr} {v : Value} (hx : Ev N ρ x (.pointer (some ad))) (hc : w.cell? ad = some v) : Ex Tryd.prog N ρ w (.load 9 x) ty v w := x_load sc9 hx hc
theorem sto9 {N : Nat} {ρ : Nat → Value} {H : Hp} {w : World} {L : List Res} {g T ty i : Nat} {x y : Operand} {cs cs' : List Value} {v : Value} (h : St H w (obj g T cs :: L)) (hx : Ev N ρ x (.pointer (some ⟨g, i, none⟩))) (hy : Ev N ρ y v) (hsz : v.cells.size = 1) (hl : i + 1 ≤ cs.length) (h1 : ∀ u ∈ v.cells.toList, u.oneCell' = true) (hsp : splice cs i v.cells.toList = cs') : ∃ w', Ex0 Tryd.prog N ρ w (.store 9 x y) ty w' ∧ St H w' (obj g T cs' :: L) := by
  obtain ⟨i0, e1, _, e3, _⟩ := inf9
  exact m_store e1 h hx hy (by rw [e3]; exact hsz) (by rw [e3]; exact hl) h1 hsp
theorem stor9 {N : Nat} {ρ : Nat → Value} {H : Hp} {w : World} {L : List Res} {g e size n cap ty i : Nat} {x y : Operand} {xs xs' : List Value} {v u : Value} (h : St H w (row e size v n xs :: L)) (hv : v = .slice (some ⟨g, 0, none⟩) n cap) (hx : Ev N ρ x (.pointer (some ⟨g, i, none⟩))) (hy : Ev N ρ y u) (hsz : u.cells.size = 1) (hl : i + 1 ≤ xs.length) (h1 : ∀ u' ∈ u.cells.toList, u'.oneCell' = true) (hsp : splice xs i u.cells.toList = xs') : ∃ w', Ex0 Tryd.prog N ρ w (.store 9 x y) ty w' ∧ St H w' (row e size v n xs' :: L) := by
  obtain ⟨i0, e1, _, e3, _⟩ := inf9
  exact m_storeRow e1 h hv hx hy (by rw [e3]; exact hsz) (by rw [e3]; exact hl) h1 hsp
theorem al9 {N : Nat} {ρ : Nat → Value} {H : Hp} {w : World} {L : List Res} {ty : Nat} {cs : List Value} (h : St H w L) (hv : (.string ⟨#[]⟩ : Value).cells = cs.toArray) : ∃ v' w', Ex Tryd.prog N ρ w (.alloc 9) ty v' w' ∧ ∃ g, v' = .pointer (some ⟨g, 0, none⟩) ∧ St H w' (obj g 9 cs :: L) := by
  obtain ⟨i0, e1, e2, _, _⟩ := inf9
  exact m_alloc e1 e2 h hv
theorem sc10 : scalarT Tryd.prog 10 = true := by kernel_rfl
theorem ld10 {N : Nat} {ρ : Nat → Value} {w : World} {ty : Nat} {x : Operand} {ad : Addr} {v : Value} (hx : Ev N ρ x (.pointer (some ad))) (hc : w.cell? ad = some v) : Ex Tryd.prog N ρ w (.load 10 x) ty v w := x_load sc10 hx hc
theorem sto10 {N : Nat} {ρ : Nat → Value} {H : Hp} {w : World} {L : List Res} {g T ty i : Nat} {x y : Operand} {cs cs' : List Value} {v : Value} (h : St H w (obj g T cs :: L)) (hx : Ev N ρ x (.pointer (some ⟨g, i, none⟩))) (hy : Ev N ρ y v) (hsz : v.cells.size = 1) (hl : i + 1 ≤ cs.length) (h1 : ∀ u ∈ v.cells.toList, u.oneCell' = true) (hsp : splice cs i v.cells.toList = cs') : ∃ w', Ex0 Tryd.prog N ρ w (.store 10 x y) ty w' ∧ St H w' (obj g T cs' :: L) := by
  obtain ⟨i0, e1, _, e3, _⟩ := inf10
  exact m_store e1 h hx hy (by rw [e3]; exact hsz) (by rw [e3]; exact hl) h1 hsp
theorem stor10 {N : Nat} {ρ : Nat → Value} {H : Hp} {w : World} {L : List Res} {g e size n cap ty i : Nat} {x y : Operand} {xs xs' : List Value} {v u : Value} (h : St H w (row e size v n xs :: L)) (hv : v = .slice (some ⟨g, 0, none⟩) n cap) (hx : Ev N ρ x (.pointer (some ⟨g, i, none⟩))) (hy : Ev N ρ y u) (hsz : u.cells.size = 1) (hl : i + 1 ≤ xs.length) (h1 : ∀ u' ∈ u.cells.toList, u'.oneCell' = true) (hsp : splice xs i u.cells.toList = xs') : ∃ w', Ex0 Tryd.prog N ρ w (.store 10 x y) ty w' ∧ St H w' (row e size v n xs' :: L) := by
  obtain ⟨i0, e1, _, e3, _⟩ := inf10
  exact m_storeRow e1 h hv hx hy (by rw [e3]; exact hsz) (by rw [e3]; exact hl) h1 hsp
theorem al10 {N : Nat} {ρ : Nat → Value} {H : Hp} {w : World} {L : List Res} {ty : Nat} {cs : List Value} (h : St H w L) (hv : (.string ⟨#[]⟩ : Value).cells = cs.toArray) : ∃ v' w', Ex Tryd.prog N ρ w (.alloc 10) ty v' w' ∧ ∃ g, v' = .pointer (some ⟨g, 0, none⟩) ∧ St H w' (obj g 10 cs :: L) := by
  obtain ⟨i0, e1, e2, _, _⟩ := inf10
  exact m_alloc e1 e2 h hv
theorem sc11 : scalarT Tryd.prog 11 = true := by kernel_rfl
theorem ld11 {N : Nat} {ρ : Nat → Value} {w : World} {ty : Nat} {x : Operand} {ad : Addr} {v : Value} (hx : Ev N ρ x (.pointer (some ad))) (hc : w.cell? ad = some v) : Ex Tryd.prog N ρ w (.load 11 x) ty v w := x_load sc11 hx hc
theorem sto11 {N : Nat} {ρ : Nat → Value} {H : Hp} {w : World} {L : List Res} {g T ty i : Nat} {x y : Operand} {cs cs' : List Value} {v : Value} (h : St H w (obj g T cs :: L)) (hx : Ev N ρ x (.pointer (some ⟨g, i, none⟩))) (hy : Ev N ρ y v) (hsz : v.cells.size = 1) (hl : i + 1 ≤ cs.length) (h1 : ∀ u ∈ v.cells.toList, u.oneCell' = true) (hsp : splice cs i v.cells.toList = cs') : ∃ w', Ex0 Tryd.prog N ρ w (.store 11 x y) ty w' ∧ St H w' (obj g T cs' :: L) := by
  obtain ⟨i0, e1, _, e3, _⟩ := inf11
  exact m_store e1 h hx hy (by rw [e3]; exact hsz) (by rw [e3]; exact hl) h1 hsp
theorem stor11 {N : Nat} {ρ : Nat → Value} {H : Hp} {w : World} {L : List Res} {g e size n cap ty i : Nat} {x y : Operand} {xs xs' : List Value} {v u : Value} (h : St H w (row e size v n xs :: L)) (hv : v = .slice (some ⟨g, 0, none⟩) n cap) (hx : Ev N ρ x (.pointer (some ⟨g, i, none⟩))) (hy : Ev N ρ y u) (hsz : u.cells.size = 1) (hl : i + 1 ≤ xs.length) (h1 : ∀ u' ∈ u.cells.toList, u'.oneCell' = true) (hsp : splice xs i u.cells.toList = xs') : ∃ w', Ex0 Tryd.prog N ρ w (.store 11 x y) ty w' ∧ St H w' (row e size v n xs' :: L) := by
  obtain ⟨i0, e1, _, e3, _⟩ := inf11
  exact m_storeRow e1 h hv hx hy (by rw [e3]; exact hsz) (by rw [e3]; exact hl) h1 hsp
theorem al11 {N : Nat} {ρ : Nat → Value} {H : Hp} {w : World} {L : List Res} {ty : Nat} {cs : List Value} (h : St H w L) (hv : (.string ⟨#[]⟩ : Value).cells = cs.toArray) : ∃ v' w', Ex Tryd.prog N ρ w (.alloc 11) ty v' w' ∧ ∃ g, v' = .pointer (some ⟨g, 0, none⟩) ∧ St H w' (obj g 11 cs :: L) := by
  obtain ⟨i0, e1, e2, _, _⟩ := inf11
  exact m_alloc e1 e2 h hv
theorem sc12 : scalarT Tryd.prog 12 = true := by kernel_rfl
theorem ld12 {N : Nat} {ρ : Nat → Value} {w : World} {ty : Nat} {x : Operand} {ad : Addr} {v : Value} (hx : Ev N ρ x (.pointer (some ad))) (hc : w.cell? ad = some v) : Ex Tryd.prog N ρ w (.load 12 x) ty v w := x_load sc12 hx hc
theorem sto12 {N : Nat} {ρ : Nat → Value} {H : Hp} {w : World} {L : List Res} {g T ty i : Nat} {x y : Operand} {cs cs' : List Value} {v : Value} (h : St H w (obj g T cs :: L)) (hx : Ev N ρ x (.pointer (some ⟨g, i, none⟩))) (hy : Ev N ρ y v) (hsz : v.cells.size = 1) (hl : i + 1 ≤ cs.length) (h1 : ∀ u ∈ v.cells.toList, u.oneCell' = true) (hsp : splice cs i v.cells.toList = cs') : ∃ w', Ex0 Tryd.prog N ρ w (.store 12 x y) ty w' ∧ St H w' (obj g T cs' :: L) := by
  obtain ⟨i0, e1, _, e3, _⟩ := inf12
  exact m_store e1 h hx hy (by rw [e3]; exact hsz) (by rw [e3]; exact hl) h1 hsp
theorem stor12 {N : Nat} {ρ : Nat → Value} {H : Hp} {w : World} {L : List Res} {g e size n cap ty i : Nat} {x y : Operand} {xs xs' : List Value} {v u : Value} (h : St H w (row e size v n xs :: L)) (hv : v = .slice (some ⟨g, 0, none⟩) n cap) (hx : Ev N ρ x (.pointer (some ⟨g, i, none⟩))) (hy : Ev N ρ y u) (hsz : u.cells.size = 1) (hl : i + 1 ≤ xs.length) (h1 : ∀ u' ∈ u.cells.toList, u'.oneCell' = true) (hsp : splice xs i u.cells.toList = xs') : ∃ w', Ex0 Tryd.prog N ρ w (.store 12 x y) ty w' ∧ St H w' (row e size v n xs' :: L) := by
  obtain ⟨i0, e1, _, e3, _⟩ := inf12
  exact m_storeRow e1 h hv hx hy (by rw [e3]; exact hsz) (by rw [e3]; exact hl) h1 hsp
theorem al12 {N : Nat} {ρ : Nat → Value} {H : Hp} {w : World} {L : List Res} {ty : Nat} {cs : List Value} (h : St H w L) (hv : (.int .u64 0 : Value).cells = cs.toArray) : ∃ v' w', Ex Tryd.prog N ρ w (.alloc 12) ty v' w' ∧ ∃ g, v' = .pointer (some ⟨g, 0, none⟩) ∧ St H w' (obj g 12 cs :: L) := by
  obtain ⟨i0, e1, e2, _, _⟩ := inf12
  exact m_alloc e1 e2 h hv
theorem ag13 : aggT Tryd.prog 13 = true := by kernel_rfl
theorem ld13 {N : Nat} {ρ : Nat → Value} {w : World} {ty : Nat} {x : Operand} {ad : Addr} {cs : List Value} (hx : Ev N ρ x (.pointer (some ad))) (hc : At w ad cs) (hl : cs.length = 2) : Ex Tryd.prog N ρ w (.load 13 x) ty (.agg cs.toArray) w := by
  obtain ⟨i0, h1, _, h3, _⟩ := inf13
  exact x_loadA ag13 h1 hx hc (by rw [h3]; exact hl)
theorem lv13 {w : World} {ad : Addr} {cs : List Value} (hc : At w ad cs) (hl : cs.length = 2) : (loadVar 13 ad).run Tryd.prog w = .ok (.agg cs.toArray) w := by
  obtain ⟨i0, h1, _, h3, _⟩ := inf13
  exact run_loadVar_t ag13 h1 hc (by rw [h3]; exact hl)
theorem sto13 {N : Nat} {ρ : Nat → Value} {H : Hp} {w : World} {L : List Res} {g T ty i : Nat} {x y : Operand} {cs cs' : List Value} {v : Value} (h : St H w (obj g T cs :: L)) (hx : Ev N ρ x (.pointer (some ⟨g, i, none⟩))) (hy : Ev N ρ y v) (hsz : v.cells.size = 2) (hl : i + 2 ≤ cs.length) (h1 : ∀ u ∈ v.cells.toList, u.oneCell' = true) (hsp : splice cs i v.cells.toList = cs') : ∃ w', Ex0 Tryd.prog N ρ w (.store 13 x y) ty w' ∧ St H w' (obj g T cs' :: L) := by
  obtain ⟨i0, e1, _, e3, _⟩ := inf13
  exact m_store e1 h hx hy (by rw [e3]; exact hsz) (by rw [e3]; exact hl) h1 hsp
theorem stor13 {N : Nat} {ρ : Nat → Value} {H : Hp} {w : World} {L : List Res} {g e size n cap ty i : Nat} {x y : Operand} {xs xs' : List Value} {v u : Value} (h : St H w (row e size v n xs :: L)) (hv : v = .slice (some ⟨g, 0, none⟩) n cap) (hx : Ev N ρ x (.pointer (some ⟨g, i, none⟩))) (hy : Ev N ρ y u) (hsz : u.cells.size = 2) (hl : i + 2 ≤ xs.length) (h1 : ∀ u' ∈ u.cells.toList, u'.oneCell' = true) (hsp : splice xs i u.cells.toList = xs') : ∃ w', Ex0 Tryd.prog N ρ w (.store 13 x y) ty w' ∧ St H w' (row e size v n xs' :: L) := by
  obtain ⟨i0, e1, _, e3, _⟩ := inf13
  exact m_storeRow e1 h hv hx hy (by rw [e3]; exact hsz) (by rw [e3]; exact hl) h1 hsp
theorem al13 {N : Nat} {ρ : Nat → Value} {H : Hp} {w : World} {L : List Res} {ty : Nat} {cs : List Value} (h : St H w L) (hv : (.agg #[.string ⟨#[]⟩, .int .u64 0] : Value).cells = cs.toArray) : ∃ v' w', Ex Tryd.prog N ρ w (.alloc 13) ty v' w' ∧ ∃ g, v' = .pointer (some ⟨g, 0, none⟩) ∧ St H w' (obj g 13 cs :: L) := by
  obtain ⟨i0, e1, e2, _, _⟩ := inf13
  exact m_alloc e1 e2 h hv
theorem ag14 : aggT Tryd.prog 14 = true := by kernel_rfl
theorem ld14 {N : Nat} {ρ : Nat → Value} {w : World} {ty : Nat} {x : Operand} {ad : Addr} {cs : List Value} (hx : Ev N ρ x (.pointer (some ad))) (hc : At w ad cs) (hl : cs.length = 2) : Ex Tryd.prog N ρ w (.load 14 x) ty (.agg cs.toArray) w := by
  obtain ⟨i0, h1, _, h3, _⟩ := inf14
  exact x_loadA ag14 h1 hx hc (by rw [h3]; exact hl)
theorem lv14 {w : World} {ad : Addr} {cs : List Value} (hc : At w ad cs) (hl : cs.length = 2) : (loadVar 14 ad).run Tryd.prog w = .ok (.agg cs.toArray) w := by
  obtain ⟨i0, h1, _, h3, _⟩ := inf14
  exact run_loadVar_t ag14 h1 hc (by rw [h3]; exact hl)
theorem sto14 {N : Nat} {ρ : Nat → Value} {H : Hp} {w : World} {L : List Res} {g T ty i : Nat} {x y : Operand} {cs cs' : List Value} {v : Value} (h : St H w (obj g T cs :: L)) (hx : Ev N ρ x (.pointer (some ⟨g, i, none⟩))) (hy : Ev N ρ y v) (hsz : v.cells.size = 2) (hl : i + 2 ≤ cs.length) (h1 : ∀ u ∈ v.cells.toList, u.oneCell' = true) (hsp : splice cs i v.cells.toList = cs') : ∃ w', Ex0 Tryd.prog N ρ w (.store 14 x y) ty w' ∧ St H w' (obj g T cs' :: L) := by
  obtain ⟨i0, e1, _, e3, _⟩ := inf14
  exact m_store e1 h hx hy (by rw [e3]; exact hsz) (by rw [e3]; exact hl) h1 hsp
theorem stor14 {N : Nat} {ρ : Nat → Value} {H : Hp} {w : World} {L : List Res} {g e size n cap ty i : Nat} {x y : Operand} {xs xs' : List Value} {v u : Value} (h : St H w (row e size v n xs :: L)) (hv : v = .slice (some ⟨g, 0, none⟩) n cap) (hx : Ev N ρ x (.pointer (some ⟨g, i, none⟩))) (hy : Ev N ρ y u) (hsz : u.cells.size = 2) (hl : i + 2 ≤ xs.length) (h1 : ∀ u' ∈ u.cells.toList, u'.oneCell' = true) (hsp : splice xs i u.cells.toList = xs') : ∃ w', Ex0 Tryd.prog N ρ w (.store 14 x y) ty w' ∧ St H w' (row e size v n xs' :: L) := by
  obtain ⟨i0, e1, _, e3, _⟩ := inf14
  exact m_storeRow e1 h hv hx hy (by rw [e3]; exact hsz) (by rw [e3]; exact hl) h1 hsp
theorem al14 {N : Nat} {ρ : Nat → Value} {H : Hp} {w : World} {L : List Res} {ty : Nat} {cs : List Value} (h : St H w L) (hv : (.agg #[.string ⟨#[]⟩, .int .u64 0] : Value).cells = cs.toArray) : ∃ v' w', Ex Tryd.prog N ρ w (.alloc 14) ty v' w' ∧ ∃ g, v' = .pointer (some ⟨g, 0, none⟩) ∧ St H w' (obj g 14 cs :: L) := by
  obtain ⟨i0, e1, e2, _, _⟩ := inf14
  exact m_alloc e1 e2 h hv
theorem sc15 : scalarT Tryd.prog 15 = true := by kernel_rfl
theorem ld15 {N : Nat} {ρ : Nat → Value} {w : World} {ty : Nat} {x : Operand} {ad : Addr} {v : Value} (hx : Ev N ρ x (.pointer (some ad))) (hc : w.cell? ad = some v) : Ex Tryd.prog N ρ w (.load 15 x) ty v w := x_load sc15 hx hc
theorem sto15 {N : Nat} {ρ : Nat → Value} {H : Hp} {w : World} {L : List Res} {g T ty i : Nat} {x y : Operand} {cs cs' : List Value} {v : Value} (h : St H w (obj g T cs :: L)) (hx : Ev N ρ x (.pointer (some ⟨g, i, none⟩))) (hy : Ev N ρ y v) (hsz : v.cells.size = 1) (hl : i + 1 ≤ cs.length) (h1 : ∀ u ∈ v.cells.toList, u.oneCell' = true) (hsp : splice cs i v.cells.toList = cs') : ∃ w', Ex0 Tryd.prog N ρ w (.store 15 x y) ty w' ∧ St H w' (obj g T cs' :: L) := by
  obtain ⟨i0, e1, _, e3, _⟩ := inf15
  exact m_store e1 h hx hy (by rw [e3]; exact hsz) (by rw [e3]; exact hl) h1 hsp
theorem stor15 {N : Nat} {ρ : Nat → Value} {H : Hp} {w : World} {L : List Res} {g e size n cap ty i : Nat} {x y : Operand} {xs xs' : List Value} {v u : Value} (h : St H w (row e size v n xs :: L)) (hv : v = .slice (some ⟨g, 0, none⟩) n cap) (hx : Ev N ρ x (.pointer (some ⟨g, i, none⟩))) (hy : Ev N ρ y u) (hsz : u.cells.size = 1) (hl : i + 1 ≤ xs.length) (h1 : ∀ u' ∈ u.cells.toList, u'.oneCell' = true) (hsp : splice xs i u.cells.toList = xs') : ∃ w', Ex0 Tryd.prog N ρ w (.store 15 x y) ty w' ∧ St H w' (row e size v n xs' :: L) := by
  obtain ⟨i0, e1, _, e3, _⟩ := inf15
  exact m_storeRow e1 h hv hx hy (by rw [e3]; exact hsz) (by rw [e3]; exact hl) h1 hsp
theorem al15 {N : Nat} {ρ : Nat → Value} {H : Hp} {w : World} {L : List Res} {ty : Nat} {cs : List Value} (h : St H w L) (hv : (.pointer none : Value).cells = cs.toArray) : ∃ v' w', Ex Tryd.prog N ρ w (.alloc 15) ty v' w' ∧ ∃ g, v' = .pointer (some ⟨g, 0, none⟩) ∧ St H w' (obj g 15 cs :: L) := by
  obtain ⟨i0, e1, e2, _, _⟩ := inf15
  exact m_alloc e1 e2 h hv
theorem sc16 : scalarT Tryd.prog 16 = true := by kernel_rfl
theorem ld16 {N : Nat} {ρ : Nat → Value} {w : World} {ty : Nat} {x : Operand} {ad : Addr} {v : Value} (hx : Ev N ρ x (.pointer (some ad))) (hc : w.cell? ad = some v) : Ex Tryd.prog N ρ w (.load 16 x) ty v w := x_load sc16 hx hc
theorem sto16 {N : Nat} {ρ : Nat → Value} {H : Hp} {w : World} {L : List Res} {g T ty i : Nat} {x y : Operand} {cs cs' : List Value} {v : Value} (h : St H w (obj g T cs :: L)) (hx : Ev N ρ x (.pointer (some ⟨g, i, none⟩))) (hy : Ev N ρ y v) (hsz : v.cells.size = 1) (hl : i + 1 ≤ cs.length) (h1 : ∀ u ∈ v.cells.toList, u.oneCell' = true) (hsp : splice cs i v.cells.toList = cs') : ∃ w', Ex0 Tryd.prog N ρ w (.store 16 x y) ty w' ∧ St H w' (obj g T cs' :: L) := by
  obtain ⟨i0, e1, _, e3, _⟩ := inf16
  exact m_store e1 h hx hy (by rw [e3]; exact hsz) (by rw [e3]; exact hl) h1 hsp
theorem stor16 {N : Nat} {ρ : Nat → Value} {H : Hp} {w : World} {L : List Res} {g e size n cap ty i : Nat} {x y : Operand} {xs xs' : List Value} {v u : Value} (h : St H w (row e size v n xs :: L)) (hv : v = .slice (some ⟨g, 0, none⟩) n cap) (hx : Ev N ρ x (.pointer (some ⟨g, i, none⟩))) (hy : Ev N ρ y u) (hsz : u.cells.size = 1) (hl : i + 1 ≤ xs.length) (h1 : ∀ u' ∈ u.cells.toList, u'.oneCell' = true) (hsp : splice xs i u.cells.toList = xs') : ∃ w', Ex0 Tryd.prog N ρ w (.store 16 x y) ty w' ∧ St H w' (row e size v n xs' :: L) := by
  obtain ⟨i0, e1, _, e3, _⟩ := inf16
  exact m_storeRow e1 h hv hx hy (by rw [e3]; exact hsz) (by rw [e3]; exact hl) h1 hsp
theorem al16 {N : Nat} {ρ : Nat → Value} {H : Hp} {w : World} {L : List Res} {ty : Nat} {cs : List Value} (h : St H w L) (hv : (.pointer none : Value).cells = cs.toArray) : ∃ v' w', Ex Tryd.prog N ρ w (.alloc 16) ty v' w' ∧ ∃ g, v' = .pointer (some ⟨g, 0, none⟩) ∧ St H w' (obj g 16 cs :: L) := by
  obtain ⟨i0, e1, e2, _, _⟩ := inf16
  exact m_alloc e1 e2 h hv
theorem sc17 : scalarT Tryd.prog 17 = true := by kernel_rfl
theorem ld17 {N : Nat} {ρ : Nat → Value} {w : World} {ty : Nat} {x : Operand} {ad : Addr} {v : Value} (hx : Ev N ρ x (.pointer (some ad))) (hc : w.cell? ad = some v) : Ex Tryd.prog N ρ w (.load 17 x) ty v w := x_load sc17 hx hc
theorem sto17 {N : Nat} {ρ : Nat → Value} {H : Hp} {w : World} {L : List Res} {g T ty i : Nat} {x y : Operand} {cs cs' : List Value} {v : Value} (h : St H w (obj g T cs :: L)) (hx : Ev N ρ x (.pointer (some ⟨g, i, none⟩))) (hy : Ev N ρ y v) (hsz : v.cells.size = 1) (hl : i + 1 ≤ cs.length) (h1 : ∀ u ∈ v.cells.toList, u.oneCell' = true) (hsp : splice cs i v.cells.toList = cs') : ∃ w', Ex0 Tryd.prog N ρ w (.store 17 x y) ty w' ∧ St H w' (obj g T cs' :: L) := by
  obtain ⟨i0, e1, _, e3, _⟩ := inf17
  exact m_store e1 h hx hy (by rw [e3]; exact hsz) (by rw [e3]; exact hl) h1 hsp
theorem stor17 {N : Nat} {ρ : Nat → Value} {H : Hp} {w : World} {L : List Res} {g e size n cap ty i : Nat} {x y : Operand} {xs xs' : List Value} {v u : Value} (h : St H w (row e size v n xs :: L)) (hv : v = .slice (some ⟨g, 0, none⟩) n cap) (hx : Ev N ρ x (.pointer (some ⟨g, i, none⟩))) (hy : Ev N ρ y u) (hsz : u.cells.size = 1) (hl : i + 1 ≤ xs.length) (h1 : ∀ u' ∈ u.cells.toList, u'.oneCell' = true) (hsp : splice xs i u.cells.toList = xs') : ∃ w', Ex0 Tryd.prog N ρ w (.store 17 x y) ty w' ∧ St H w' (row e size v n xs' :: L) := by
  obtain ⟨i0, e1, _, e3, _⟩ := inf17
  exact m_storeRow e1 h hv hx hy (by rw [e3]; exact hsz) (by rw [e3]; exact hl) h1 hsp
theorem al17 {N : Nat} {ρ : Nat → Value} {H : Hp} {w : World} {L : List Res} {ty : Nat} {cs : List Value} (h : St H w L) (hv : (.pointer none : Value).cells = cs.toArray) : ∃ v' w', Ex Tryd.prog N ρ w (.alloc 17) ty v' w' ∧ ∃ g, v' = .pointer (some ⟨g, 0, none⟩) ∧ St H w' (obj g 17 cs :: L) := by
  obtain ⟨i0, e1, e2, _, _⟩ := inf17
  exact m_alloc e1 e2 h hv
theorem ag18 : aggT Tryd.prog 18 = true := by kernel_rfl
theorem ld18 {N : Nat} {ρ : Nat → Value} {w : World} {ty : Nat} {x : Operand} {ad : Addr} {cs : List Value} (hx : Ev N ρ x (.pointer (some ad))) (hc : At w ad cs) (hl : cs.length = 1) : Ex Tryd.prog N ρ w (.load 18 x) ty (.agg cs.toArray) w := by
  obtain ⟨i0, h1, _, h3, _⟩ := inf18
  exact x_loadA ag18 h1 hx hc (by rw [h3]; exact hl)
theorem lv18 {w : World} {ad : Addr} {cs : List Value} (hc : At w ad cs) (hl : cs.length = 1) : (loadVar 18 ad).run Tryd.prog w = .ok (.agg cs.toArray) w := by
  obtain ⟨i0, h1, _, h3, _⟩ := inf18
  exact run_loadVar_t ag18 h1 hc (by rw [h3]; exact hl)
theorem sto18 {N : Nat} {ρ : Nat → Value} {H : Hp} {w : World} {L : List Res} {g T ty i : Nat} {x y : Operand} {cs cs' : List Value} {v : Value} (h : St H w (obj g T cs :: L)) (hx : Ev N ρ x (.pointer (some ⟨g, i, none⟩))) (hy : Ev N ρ y v) (hsz : v.cells.size = 1) (hl : i + 1 ≤ cs.length) (h1 : ∀ u ∈ v.cells.toList, u.oneCell' = true) (hsp : splice cs i v.cells.toList = cs') : ∃ w', Ex0 Tryd.prog N ρ w (.store 18 x y) ty w' ∧ St H w' (obj g T cs' :: L) := by
  obtain ⟨i0, e1, _, e3, _⟩ := inf18
  exact m_store e1 h hx hy (by rw [e3]; exact hsz) (by rw [e3]; exact hl) h1 hsp
theorem stor18 {N : Nat} {ρ : Nat → Value} {H : Hp} {w : World} {L : List Res} {g e size n cap ty i : Nat} {x y : Operand} {xs xs' : List Value} {v u : Value} (h : St H w (row e size v n xs :: L)) (hv : v = .slice (some ⟨g, 0, none⟩) n cap) (hx : Ev N ρ x (.pointer (some ⟨g, i, none⟩))) (hy : Ev N ρ y u) (hsz : u.cells.size = 1) (hl : i + 1 ≤ xs.length) (h1 : ∀ u' ∈ u.cells.toList, u'.oneCell' = true) (hsp : splice xs i u.cells.toList = xs') : ∃ w', Ex0 Tryd.prog N ρ w (.store 18 x y) ty w' ∧ St H w' (row e size v n xs' :: L) := by
  obtain ⟨i0, e1, _, e3, _⟩ := inf18
  exact m_storeRow e1 h hv hx hy (by rw [e3]; exact hsz) (by rw [e3]; exact hl) h1 hsp
theorem al18 {N : Nat} {ρ : Nat → Value} {H : Hp} {w : World} {L : List Res} {ty : Nat} {cs : List Value} (h : St H w L) (hv : (.agg #[.pointer none] : Value).cells = cs.toArray) : ∃ v' w', Ex Tryd.prog N ρ w (.alloc 18) ty v' w' ∧ ∃ g, v' = .pointer (some ⟨g, 0, none⟩) ∧ St H w' (obj g 18 cs :: L) := by
  obtain ⟨i0, e1, e2, _, _⟩ := inf18
  exact m_alloc e1 e2 h hv
theorem ag19 : aggT Tryd.prog 19 = true := by kernel_rfl
theorem ld19 {N : Nat} {ρ : Nat → Value} {w : World} {ty : Nat} {x : Operand} {ad : Addr} {cs : List Value} (hx : Ev N ρ x (.pointer (some ad))) (hc : At w ad cs) (hl : cs.length = 1) : Ex Tryd.prog N ρ w (.load 19 x) ty (.agg cs.toArray) w := by
  obtain ⟨i0, h1, _, h3, _⟩ := inf19
  exact x_loadA ag19 h1 hx hc (by rw [h3]; exact hl)
theorem lv19 {w : World} {ad : Addr} {cs : List Value} (hc : At w ad cs) (hl : cs.length = 1) : (loadVar 19 ad).run Tryd.prog w = .ok (.agg cs.toArray) w := by
  obtain ⟨i0, h1, _, h3, _⟩ := inf19
  exact run_loadVar_t ag19 h1 hc (by rw [h3]; exact hl)
theorem sto19 {N : Nat} {ρ : Nat → Value} {H : Hp} {w : World} {L : List Res} {g T ty i : Nat} {x y : Operand} {cs cs' : List Value} {v : Value} (h : St H w (obj g T cs :: L)) (hx : Ev N ρ x (.pointer (some ⟨g, i, none⟩))) (hy : Ev N ρ y v) (hsz : v.cells.size = 1) (hl : i + 1 ≤ cs.length) (h1 : ∀ u ∈ v.cells.toList, u.oneCell' = true) (hsp : splice cs i v.cells.toList = cs') : ∃ w', Ex0 Tryd.prog N ρ w (.store 19 x y) ty w' ∧ St H w' (obj g T cs' :: L) := by
  obtain ⟨i0, e1, _, e3, _⟩ := inf19
  exact m_store e1 h hx hy (by rw [e3]; exact hsz) (by rw [e3]; exact hl) h1 hsp
theorem stor19 {N : Nat} {ρ : Nat → Value} {H : Hp} {w : World} {L : List Res} {g e size n cap ty i : Nat} {x y : Operand} {xs xs' : List Value} {v u : Value} (h : St H w (row e size v n xs :: L)) (hv : v = .slice (some ⟨g, 0, none⟩) n cap) (hx : Ev N ρ x (.pointer (some ⟨g, i, none⟩))) (hy : Ev N ρ y u) (hsz : u.cells.size = 1) (hl : i + 1 ≤ xs.length) (h1 : ∀ u' ∈ u.cells.toList, u'.oneCell' = true) (hsp : splice xs i u.cells.toList = xs') : ∃ w', Ex0 Tryd.prog N ρ w (.store 19 x y) ty w' ∧ St H w' (row e size v n xs' :: L) := by
  obtain ⟨i0, e1, _, e3, _⟩ := inf19
  exact m_storeRow e1 h hv hx hy (by rw [e3]; exact hsz) (by rw [e3]; exact hl) h1 hsp
theorem al19 {N : Nat} {ρ : Nat → Value} {H : Hp} {w : World} {L : List Res} {ty : Nat} {cs : List Value} (h : St H w L) (hv : (.agg #[.pointer none] : Value).cells = cs.toArray) : ∃ v' w', Ex Tryd.prog N ρ w (.alloc 19) ty v' w' ∧ ∃ g, v' = .pointer (some ⟨g, 0, none⟩) ∧ St H w' (obj g 19 cs :: L) := by
  obtain ⟨i0, e1, e2, _, _⟩ := inf19
  exact m_alloc e1 e2 h hv
theorem sc21 : scalarT Tryd.prog 21 = true := by kernel_rfl
theorem ld21 {N : Nat} {ρ : Nat → Value} {w : World} {ty : Nat} {x : Operand} {ad : Addr} {v : Value} (hx : Ev N ρ x (.pointer (some ad))) (hc : w.cell? ad = some v) : Ex Tryd.prog N ρ w (.load 21 x) ty v w := x_load sc21 hx hc
theorem sto21 {N : Nat} {ρ : Nat → Value} {H : Hp} {w : World} {L : List Res} {g T ty i : Nat} {x y : Operand} {cs cs' : List Value} {v : Value} (h : St H w (obj g T cs :: L)) (hx : Ev N ρ x (.pointer (some ⟨g, i, none⟩))) (hy : Ev N ρ y v) (hsz : v.cells.size = 1) (hl : i + 1 ≤ cs.length) (h1 : ∀ u ∈ v.cells.toList, u.oneCell' = true) (hsp : splice cs i v.cells.toList = cs') : ∃ w', Ex0 Tryd.prog N ρ w (.store 21 x y) ty w' ∧ St H w' (obj g T cs' :: L) := by
  obtain ⟨i0, e1, _, e3, _⟩ := inf21
  exact m_store e1 h hx hy (by rw [e3]; exact hsz) (by rw [e3]; exact hl) h1 hsp
theorem stor21 {N : Nat} {ρ : Nat → Value} {H : Hp} {w : World} {L : List Res} {g e size n cap ty i : Nat} {x y : Operand} {xs xs' : List Value} {v u : Value} (h : St H w (row e size v n xs :: L)) (hv : v = .slice (some ⟨g, 0, none⟩) n cap) (hx : Ev N ρ x (.pointer (some ⟨g, i, none⟩))) (hy : Ev N ρ y u) (hsz : u.cells.size = 1) (hl : i + 1 ≤ xs.length) (h1 : ∀ u' ∈ u.cells.toList, u'.oneCell' = true) (hsp : splice xs i u.cells.toList = xs') : ∃ w', Ex0 Tryd.prog N ρ w (.store 21 x y) ty w' ∧ St H w' (row e size v n xs' :: L) := by
  obtain ⟨i0, e1, _, e3, _⟩ := inf21
  exact m_storeRow e1 h hv hx hy (by rw [e3]; exact hsz) (by rw [e3]; exact hl) h1 hsp
theorem al21 {N : Nat} {ρ : Nat → Value} {H : Hp} {w : World} {L : List Res} {ty : Nat} {cs : List Value} (h : St H w L) (hv : (.int .i32 0 : Value).cells = cs.toArray) : ∃ v' w', Ex Tryd.prog N ρ w (.alloc 21) ty v' w' ∧ ∃ g, v' = .pointer (some ⟨g, 0, none⟩) ∧ St H w' (obj g 21 cs :: L) := by
  obtain ⟨i0, e1, e2, _, _⟩ := inf21
  exact m_alloc e1 e2 h hv
theorem sc22 : scalarT Tryd.prog 22 = true := by kernel_rfl
theorem ld22 {N : Nat} {ρ : Nat → Value} {w : World} {ty : Nat} {x : Operand} {ad : Addr} {v : Value} (hx : Ev N ρ x (.pointer (some ad))) (hc : w.cell? ad = some v) : Ex Tryd.prog N ρ w (.load 22 x) ty v w := x_load sc22 hx hc
theorem sto22 {N : Nat} {ρ : Nat → Value} {H : Hp} {w : World} {L : List Res} {g T ty i : Nat} {x y : Operand} {cs cs' : List Value} {v : Value} (h : St H w (obj g T cs :: L)) (hx : Ev N ρ x (.pointer (some ⟨g, i, none⟩))) (hy : Ev N ρ y v) (hsz : v.cells.size = 1) (hl : i + 1 ≤ cs.length) (h1 : ∀ u ∈ v.cells.toList, u.oneCell' = true) (hsp : splice cs i v.cells.toList = cs') : ∃ w', Ex0 Tryd.prog N ρ w (.store 22 x y) ty w' ∧ St H w' (obj g T cs' :: L) := by
  obtain ⟨i0, e1, _, e3, _⟩ := inf22
  exact m_store e1 h hx hy (by rw [e3]; exact hsz) (by rw [e3]; exact hl) h1 hsp
theorem stor22 {N : Nat} {ρ : Nat → Value} {H : Hp} {w : World} {L : List Res} {g e size n cap ty i : Nat} {x y : Operand} {xs xs' : List Value} {v u : Value} (h : St H w (row e size v n xs :: L)) (hv : v = .slice (some ⟨g, 0, none⟩) n cap) (hx : Ev N ρ x (.pointer (some ⟨g, i, none⟩))) (hy : Ev N ρ y u) (hsz : u.cells.size = 1) (hl : i + 1 ≤ xs.length) (h1 : ∀ u' ∈ u.cells.toList, u'.oneCell' = true) (hsp : splice xs i u.cells.toList = xs') : ∃ w', Ex0 Tryd.prog N ρ w (.store 22 x y) ty w' ∧ St H w' (row e size v n xs' :: L) := by
  obtain ⟨i0, e1, _, e3, _⟩ := inf22
  exact m_storeRow e1 h hv hx hy (by rw [e3]; exact hsz) (by rw [e3]; exact hl) h1 hsp
theorem al22 {N : Nat} {ρ : Nat → Value} {H : Hp} {w : World} {L : List Res} {ty : Nat} {cs : List Value} (h : St H w L) (hv : (.slice none 0 0 : Value).cells = cs.toArray) : ∃ v' w', Ex Tryd.prog N ρ w (.alloc 22) ty v' w' ∧ ∃ g, v' = .pointer (some ⟨g, 0, none⟩) ∧ St H w' (obj g 22 cs :: L) := by
  obtain ⟨i0, e1, e2, _, _⟩ := inf22
  exact m_alloc e1 e2 h hv
theorem sc23 : scalarT Tryd.prog 23 = true := by kernel_rfl
theorem ld23 {N : Nat} {ρ : Nat → Value} {w : World} {ty : Nat} {x : Operand} {ad : Addr} {v : Value} (hx : Ev N ρ x (.pointer (some ad))) (hc : w.cell? ad = some v) : Ex Tryd.prog N ρ w (.load 23 x) ty v w := x_load sc23 hx hc
theorem sto23 {N : Nat} {ρ : Nat → Value} {H : Hp} {w : World} {L : List Res} {g T ty i : Nat} {x y : Operand} {cs cs' : List Value} {v : Value} (h : St H w (obj g T cs :: L)) (hx : Ev N ρ x (.pointer (some ⟨g, i, none⟩))) (hy : Ev N ρ y v) (hsz : v.cells.size = 1) (hl : i + 1 ≤ cs.length) (h1 : ∀ u ∈ v.cells.toList, u.oneCell' = true) (hsp : splice cs i v.cells.toList = cs') : ∃ w', Ex0 Tryd.prog N ρ w (.store 23 x y) ty w' ∧ St H w' (obj g T cs' :: L) := by
  obtain ⟨i0, e1, _, e3, _⟩ := inf23
  exact m_store e1 h hx hy (by rw [e3]; exact hsz) (by rw [e3]; exact hl) h1 hsp
theorem stor23 {N : Nat} {ρ : Nat → Value} {H : Hp} {w : World} {L : List Res} {g e size n cap ty i : Nat} {x y : Operand} {xs xs' : List Value} {v u : Value} (h : St H w (row e size v n xs :: L)) (hv : v = .slice (some ⟨g, 0, none⟩) n cap) (hx : Ev N ρ x (.pointer (some ⟨g, i, none⟩))) (hy : Ev N ρ y u) (hsz : u.cells.size = 1) (hl : i + 1 ≤ xs.length) (h1 : ∀ u' ∈ u.cells.toList, u'.oneCell' = true) (hsp : splice xs i u.cells.toList = xs') : ∃ w', Ex0 Tryd.prog N ρ w (.store 23 x y) ty w' ∧ St H w' (row e size v n xs' :: L) := by
  obtain ⟨i0, e1, _, e3, _⟩ := inf23
  exact m_storeRow e1 h hv hx hy (by rw [e3]; exact hsz) (by rw [e3]; exact hl) h1 hsp
theorem al23 {N : Nat} {ρ : Nat → Value} {H : Hp} {w : World} {L : List Res} {ty : Nat} {cs : List Value} (h : St H w L) (hv : (.slice none 0 0 : Value).cells = cs.toArray) : ∃ v' w', Ex Tryd.prog N ρ w (.alloc 23) ty v' w' ∧ ∃ g, v' = .pointer (some ⟨g, 0, none⟩) ∧ St H w' (obj g 23 cs :: L) := by
  obtain ⟨i0, e1, e2, _, _⟩ := inf23
  exact m_alloc e1 e2 h hv
theorem sc25 : scalarT Tryd.prog 25 = true := by kernel_rfl
theorem ld25 {N : Nat} {ρ : Nat → Value} {w : World} {ty : Nat} {x : Operand} {ad : Addr} {v : Value} (hx : Ev N ρ x (.pointer (some ad))) (hc : w.cell? ad = some v) : Ex Tryd.prog N ρ w (.load 25 x) ty v w := x_load sc25 hx hc
theorem sto25 {N : Nat} {ρ : Nat → Value} {H : Hp} {w : World} {L : List Res} {g T ty i : Nat} {x y : Operand} {cs cs' : List Value} {v : Value} (h : St H w (obj g T cs :: L)) (hx : Ev N ρ x (.pointer (some ⟨g, i, none⟩))) (hy : Ev N ρ y v) (hsz : v.cells.size = 1) (hl : i + 1 ≤ cs.length) (h1 : ∀ u ∈ v.cells.toList, u.oneCell' = true) (hsp : splice cs i v.cells.toList = cs') : ∃ w', Ex0 Tryd.prog N ρ w (.store 25 x y) ty w' ∧ St H w' (obj g T cs' :: L) := by
  obtain ⟨i0, e1, _, e3, _⟩ := inf25
  exact m_store e1 h hx hy (by rw [e3]; exact hsz) (by rw [e3]; exact hl) h1 hsp
theorem stor25 {N : Nat} {ρ : Nat → Value} {H : Hp} {w : World} {L : List Res} {g e size n cap ty i : Nat} {x y : Operand} {xs xs' : List Value} {v u : Value} (h : St H w (row e size v n xs :: L)) (hv : v = .slice (some ⟨g, 0, none⟩) n cap) (hx : Ev N ρ x (.pointer (some ⟨g, i, none⟩))) (hy : Ev N ρ y u) (hsz : u.cells.size = 1) (hl : i + 1 ≤ xs.length) (h1 : ∀ u' ∈ u.cells.toList, u'.oneCell' = true) (hsp : splice xs i u.cells.toList = xs') : ∃ w', Ex0 Tryd.prog N ρ w (.store 25 x y) ty w' ∧ St H w' (row e size v n xs' :: L) := by
  obtain ⟨i0, e1, _, e3, _⟩ := inf25
  exact m_storeRow e1 h hv hx hy (by rw [e3]; exact hsz) (by rw [e3]; exact hl) h1 hsp
theorem al25 {N : Nat} {ρ : Nat → Value} {H : Hp} {w : World} {L : List Res} {ty : Nat} {cs : List Value} (h : St H w L) (hv : (.slice none 0 0 : Value).cells = cs.toArray) : ∃ v' w', Ex Tryd.prog N ρ w (.alloc 25) ty v' w' ∧ ∃ g, v' = .pointer (some ⟨g, 0, none⟩) ∧ St H w' (obj g 25 cs :: L) := by
  obtain ⟨i0, e1, e2, _, _⟩ := inf25
  exact m_alloc e1 e2 h hv
theorem sc30 : scalarT Tryd.prog 30 = true := by kernel_rfl
theorem ld30 {N : Nat} {ρ : Nat → Value} {w : World} {ty : Nat} {x : Operand} {ad : Addr} {v : Value} (hx : Ev N ρ x (.pointer (some ad))) (hc : w.cell? ad = some v) : Ex Tryd.prog N ρ w (.load 30 x) ty v w := x_load sc30 hx hc
theorem sto30 {N : Nat} {ρ : Nat → Value} {H : Hp} {w : World} {L : List Res} {g T ty i : Nat} {x y : Operand} {cs cs' : List Value} {v : Value} (h : St H w (obj g T cs :: L)) (hx : Ev N ρ x (.pointer (some ⟨g, i, none⟩))) (hy : Ev N ρ y v) (hsz : v.cells.size = 1) (hl : i + 1 ≤ cs.length) (h1 : ∀ u ∈ v.cells.toList, u.oneCell' = true) (hsp : splice cs i v.cells.toList = cs') : ∃ w', Ex0 Tryd.prog N ρ w (.store 30 x y) ty w' ∧ St H w' (obj g T cs' :: L) := by
  obtain ⟨i0, e1, _, e3, _⟩ := inf30
  exact m_store e1 h hx hy (by rw [e3]; exact hsz) (by rw [e3]; exact hl) h1 hsp
theorem stor30 {N : Nat} {ρ : Nat → Value} {H : Hp} {w : World} {L : List Res} {g e size n cap ty i : Nat} {x y : Operand} {xs xs' : List Value} {v u : Value} (h : St H w (row e size v n xs :: L)) (hv : v = .slice (some ⟨g, 0, none⟩) n cap) (hx : Ev N ρ x (.pointer (some ⟨g, i, none⟩))) (hy : Ev N ρ y u) (hsz : u.cells.size = 1) (hl : i + 1 ≤ xs.length) (h1 : ∀ u' ∈ u.cells.toList, u'.oneCell' = true) (hsp : splice xs i u.cells.toList = xs') : ∃ w', Ex0 Tryd.prog N ρ w (.store 30 x y) ty w' ∧ St H w' (row e size v n xs' :: L) := by
  obtain ⟨i0, e1, _, e3, _⟩ := inf30
  exact m_storeRow e1 h hv hx hy (by rw [e3]; exact hsz) (by rw [e3]; exact hl) h1 hsp
theorem al30 {N : Nat} {ρ : Nat → Value} {H : Hp} {w : World} {L : List Res} {ty : Nat} {cs : List Value} (h : St H w L) (hv : (.slice none 0 0 : Value).cells = cs.toArray) : ∃ v' w', Ex Tryd.prog N ρ w (.alloc 30) ty v' w' ∧ ∃ g, v' = .pointer (some ⟨g, 0, none⟩) ∧ St H w' (obj g 30 cs :: L) := by
  obtain ⟨i0, e1, e2, _, _⟩ := inf30
  exact m_alloc e1 e2 h hv
theorem sc31 : scalarT Tryd.prog 31 = true := by kernel_rfl
theorem ld31 {N : Nat} {ρ : Nat → Value} {w : World} {ty : Nat} {x : Operand} {ad : Addr} {v : Value} (hx : Ev N ρ x (.pointer (some ad))) (hc : w.cell? ad = some v) : Ex Tryd.prog N ρ w (.load 31 x) ty v w := x_load sc31 hx hc
theorem sto31 {N : Nat} {ρ : Nat → Value} {H : Hp} {w : World} {L : List Res} {g T ty i : Nat} {x y : Operand} {cs cs' : List Value} {v : Value} (h : St H w (obj g T cs :: L)) (hx : Ev N ρ x (.pointer (some ⟨g, i, none⟩))) (hy : Ev N ρ y v) (hsz : v.cells.size = 1) (hl : i + 1 ≤ cs.length) (h1 : ∀ u ∈ v.cells.toList, u.oneCell' = true) (hsp : splice cs i v.cells.toList = cs') : ∃ w', Ex0 Tryd.prog N ρ w (.store 31 x y) ty w' ∧ St H w' (obj g T cs' :: L) := by
  obtain ⟨i0, e1, _, e3, _⟩ := inf31
  exact m_store e1 h hx hy (by rw [e3]; exact hsz) (by rw [e3]; exact hl) h1 hsp
theorem stor31 {N : Nat} {ρ : Nat → Value} {H : Hp} {w : World} {L : List Res} {g e size n cap ty i : Nat} {x y : Operand} {xs xs' : List Value} {v u : Value} (h : St H w (row e size v n xs :: L)) (hv : v = .slice (some ⟨g, 0, none⟩) n cap) (hx : Ev N ρ x (.pointer (some ⟨g, i, none⟩))) (hy : Ev N ρ y u) (hsz : u.cells.size = 1) (hl : i + 1 ≤ xs.length) (h1 : ∀ u' ∈ u.cells.toList, u'.oneCell' = true) (hsp : splice xs i u.cells.toList = xs') : ∃ w', Ex0 Tryd.prog N ρ w (.store 31 x y) ty w' ∧ St H w' (row e size v n xs' :: L) := by
  obtain ⟨i0, e1, _, e3, _⟩ := inf31
  exact m_storeRow e1 h hv hx hy (by rw [e3]; exact hsz) (by rw [e3]; exact hl) h1 hsp
theorem al31 {N : Nat} {ρ : Nat → Value} {H : Hp} {w : World} {L : List Res} {ty : Nat} {cs : List Value} (h : St H w L) (hv : (.slice none 0 0 : Value).cells = cs.toArray) : ∃ v' w', Ex Tryd.prog N ρ w (.alloc 31) ty v' w' ∧ ∃ g, v' = .pointer (some ⟨g, 0, none⟩) ∧ St H w' (obj g 31 cs :: L) := by
  obtain ⟨i0, e1, e2, _, _⟩ := inf31
  exact m_alloc e1 e2 h hv
theorem sc32 : scalarT Tryd.prog 32 = true := by kernel_rfl
theorem ld32 {N : Nat} {ρ : Nat → Value} {w : World} {ty : Nat} {x : Operand} {ad : Addr} {v : Value} (hx : Ev N ρ x (.pointer (some ad))) (hc : w.cell? ad = some v) : Ex Tryd.prog N ρ w (.load 32 x) ty v w := x_load sc32 hx hc
theorem sto32 {N : Nat} {ρ : Nat → Value} {H : Hp} {w : World} {L : List Res} {g T ty i : Nat} {x y : Operand} {cs cs' : List Value} {v : Value} (h : St H w (obj g T cs :: L)) (hx : Ev N ρ x (.pointer (some ⟨g, i, none⟩))) (hy : Ev N ρ y v) (hsz : v.cells.size = 1) (hl : i + 1 ≤ cs.length) (h1 : ∀ u ∈ v.cells.toList, u.oneCell' = true) (hsp : splice cs i v.cells.toList = cs') : ∃ w', Ex0 Tryd.prog N ρ w (.store 32 x y) ty w' ∧ St H w' (obj g T cs' :: L) := by
  obtain ⟨i0, e1, _, e3, _⟩ := inf32
  exact m_store e1 h hx hy (by rw [e3]; exact hsz) (by rw [e3]; exact hl) h1 hsp
theorem stor32 {N : Nat} {ρ : Nat → Value} {H : Hp} {w : World} {L : List Res} {g e size n cap ty i : Nat} {x y : Operand} {xs xs' : List Value} {v u : Value} (h : St H w (row e size v n xs :: L)) (hv : v = .slice (some ⟨g, 0, none⟩) n cap) (hx : Ev N ρ x (.pointer (some ⟨g, i, none⟩))) (hy : Ev N ρ y u) (hsz : u.cells.size = 1) (hl : i + 1 ≤ xs.length) (h1 : ∀ u' ∈ u.cells.toList, u'.oneCell' = true) (hsp : splice xs i u.cells.toList = xs') : ∃ w', Ex0 Tryd.prog N ρ w (.store 32 x y) ty w' ∧ St H w' (row e size v n xs' :: L) := by
  obtain ⟨i0, e1, _, e3, _⟩ := inf32
  exact m_storeRow e1 h hv hx hy (by rw [e3]; exact hsz) (by rw [e3]; exact hl) h1 hsp
theorem al32 {N : Nat} {ρ : Nat → Value} {H : Hp} {w : World} {L : List Res} {ty : Nat} {cs : List Value} (h : St H w L) (hv : (.slice none 0 0 : Value).cells = cs.toArray) : ∃ v' w', Ex Tryd.prog N ρ w (.alloc 32) ty v' w' ∧ ∃ g, v' = .pointer (some ⟨g, 0, none⟩) ∧ St H w' (obj g 32 cs :: L) := by
  obtain ⟨i0, e1, e2, _, _⟩ := inf32
  exact m_alloc e1 e2 h hv
theorem ag33 : aggT Tryd.prog 33 = true := by kernel_rfl
theorem ld33 {N : Nat} {ρ : Nat → Value} {w : World} {ty : Nat} {x : Operand} {ad : Addr} {cs : List Value} (hx : Ev N ρ x (.pointer (some ad))) (hc : At w ad cs) (hl : cs.length = 2) : Ex Tryd.prog N ρ w (.load 33 x) ty (.agg cs.toArray) w := by
  obtain ⟨i0, h1, _, h3, _⟩ := inf33
  exact x_loadA ag33 h1 hx hc (by rw [h3]; exact hl)
theorem lv33 {w : World} {ad : Addr} {cs : List Value} (hc : At w ad cs) (hl : cs.length = 2) : (loadVar 33 ad).run Tryd.prog w = .ok (.agg cs.toArray) w := by
  obtain ⟨i0, h1, _, h3, _⟩ := inf33
  exact run_loadVar_t ag33 h1 hc (by rw [h3]; exact hl)
theorem sto33 {N : Nat} {ρ : Nat → Value} {H : Hp} {w : World} {L : List Res} {g T ty i : Nat} {x y : Operand} {cs cs' : List Value} {v : Value} (h : St H w (obj g T cs :: L)) (hx : Ev N ρ x (.pointer (some ⟨g, i, none⟩))) (hy : Ev N ρ y v) (hsz : v.cells.size = 2) (hl : i + 2 ≤ cs.length) (h1 : ∀ u ∈ v.cells.toList, u.oneCell' = true) (hsp : splice cs i v.cells.toList = cs') : ∃ w', Ex0 Tryd.prog N ρ w (.store 33 x y) ty w' ∧ St H w' (obj g T cs' :: L) := by
  obtain ⟨i0, e1, _, e3, _⟩ := inf33
  exact m_store e1 h hx hy (by rw [e3]; exact hsz) (by rw [e3]; exact hl) h1 hsp
theorem stor33 {N : Nat} {ρ : Nat → Value} {H : Hp} {w : World} {L : List Res} {g e size n cap ty i : Nat} {x y : Operand} {xs xs' : List Value} {v u : Value} (h : St H w (row e size v n xs :: L)) (hv : v = .slice (some ⟨g, 0, none⟩) n cap) (hx : Ev N ρ x (.pointer (some ⟨g, i, none⟩))) (hy : Ev N ρ y u) (hsz : u.cells.size = 2) (hl : i + 2 ≤ xs.length) (h1 : ∀ u' ∈ u.cells.toList, u'.oneCell' = true) (hsp : splice xs i u.cells.toList = xs') : ∃ w', Ex0 Tryd.prog N ρ w (.store 33 x y) ty w' ∧ St H w' (row e size v n xs' :: L) := by
  obtain ⟨i0, e1, _, e3, _⟩ := inf33
  exact m_storeRow e1 h hv hx hy (by rw [e3]; exact hsz) (by rw [e3]; exact hl) h1 hsp
theorem al33 {N : Nat} {ρ : Nat → Value} {H : Hp} {w : World} {L : List Res} {ty : Nat} {cs : List Value} (h : St H w L) (hv : (.agg #[.int .i64 0, .slice none 0 0] : Value).cells = cs.toArray) : ∃ v' w', Ex Tryd.prog N ρ w (.alloc 33) ty v' w' ∧ ∃ g, v' = .pointer (some ⟨g, 0, none⟩) ∧ St H w' (obj g 33 cs :: L) := by
  obtain ⟨i0, e1, e2, _, _⟩ := inf33
  exact m_alloc e1 e2 h hv
theorem ag34 : aggT Tryd.prog 34 = true := by kernel_rfl
theorem ld34 {N : Nat} {ρ : Nat → Value} {w : World} {ty : Nat} {x : Operand} {ad : Addr} {cs : List Value} (hx : Ev N ρ x (.pointer (some ad))) (hc : At w ad cs) (hl : cs.length = 2) : Ex Tryd.prog N ρ w (.load 34 x) ty (.agg cs.toArray) w := by
  obtain ⟨i0, h1, _, h3, _⟩ := inf34
  exact x_loadA ag34 h1 hx hc (by rw [h3]; exact hl)
theorem lv34 {w : World} {ad : Addr} {cs : List Value} (hc : At w ad cs) (hl : cs.length = 2) : (loadVar 34 ad).run Tryd.prog w = .ok (.agg cs.toArray) w := by
  obtain ⟨i0, h1, _, h3, _⟩ := inf34
  exact run_loadVar_t ag34 h1 hc (by rw [h3]; exact hl)
theorem sto34 {N : Nat} {ρ : Nat → Value} {H : Hp} {w : World} {L : List Res} {g T ty i : Nat} {x y : Operand} {cs cs' : List Value} {v : Value} (h : St H w (obj g T cs :: L)) (hx : Ev N ρ x (.pointer (some ⟨g, i, none⟩))) (hy : Ev N ρ y v) (hsz : v.cells.size = 2) (hl : i + 2 ≤ cs.length) (h1 : ∀ u ∈ v.cells.toList, u.oneCell' = true) (hsp : splice cs i v.cells.toList = cs') : ∃ w', Ex0 Tryd.prog N ρ w (.store 34 x y) ty w' ∧ St H w' (obj g T cs' :: L) := by
  obtain ⟨i0, e1, _, e3, _⟩ := inf34
  exact m_store e1 h hx hy (by rw [e3]; exact hsz) (by rw [e3]; exact hl) h1 hsp
theorem stor34 {N : Nat} {ρ : Nat → Value} {H : Hp} {w : World} {L : List Res} {g e size n cap ty i : Nat} {x y : Operand} {xs xs' : List Value} {v u : Value} (h : St H w (row e size v n xs :: L)) (hv : v = .slice (some ⟨g, 0, none⟩) n cap) (hx : Ev N ρ x (.pointer (some ⟨g, i, none⟩))) (hy : Ev N ρ y u) (hsz : u.cells.size = 2) (hl : i + 2 ≤ xs.length) (h1 : ∀ u' ∈ u.cells.toList, u'.oneCell' = true) (hsp : splice xs i u.cells.toList = xs') : ∃ w', Ex0 Tryd.prog N ρ w (.store 34 x y) ty w' ∧ St H w' (row e size v n xs' :: L) := by
  obtain ⟨i0, e1, _, e3, _⟩ := inf34
  exact m_storeRow e1 h hv hx hy (by rw [e3]; exact hsz) (by rw [e3]; exact hl) h1 hsp
theorem al34 {N : Nat} {ρ : Nat → Value} {H : Hp} {w : World} {L : List Res} {ty : Nat} {cs : List Value} (h : St H w L) (hv : (.agg #[.int .i64 0, .slice none 0 0] : Value).cells = cs.toArray) : ∃ v' w', Ex Tryd.prog N ρ w (.alloc 34) ty v' w' ∧ ∃ g, v' = .pointer (some ⟨g, 0, none⟩) ∧ St H w' (obj g 34 cs :: L) := by
  obtain ⟨i0, e1, e2, _, _⟩ := inf34
  exact m_alloc e1 e2 h hv
theorem sc36 : scalarT Tryd.prog 36 = true := by kernel_rfl
theorem ld36 {N : Nat} {ρ : Nat → Value} {w : World} {ty : Nat} {x : Operand} {ad : Addr} {v : Value} (hx : Ev N ρ x (.pointer (some ad))) (hc : w.cell? ad = some v) : Ex Tryd.prog N ρ w (.load 36 x) ty v w := x_load sc36 hx hc
theorem sto36 {N : Nat} {ρ : Nat → Value} {H : Hp} {w : World} {L : List Res} {g T ty i : Nat} {x y : Operand} {cs cs' : List Value} {v : Value} (h : St H w (obj g T cs :: L)) (hx : Ev N ρ x (.pointer (some ⟨g, i, none⟩))) (hy : Ev N ρ y v) (hsz : v.cells.size = 1) (hl : i + 1 ≤ cs.length) (h1 : ∀ u ∈ v.cells.toList, u.oneCell' = true) (hsp : splice cs i v.cells.toList = cs') : ∃ w', Ex0 Tryd.prog N ρ w (.store 36 x y) ty w' ∧ St H w' (obj g T cs' :: L) := by
  obtain ⟨i0, e1, _, e3, _⟩ := inf36
  exact m_store e1 h hx hy (by rw [e3]; exact hsz) (by rw [e3]; exact hl) h1 hsp
theorem stor36 {N : Nat} {ρ : Nat → Value} {H : Hp} {w : World} {L : List Res} {g e size n cap ty i : Nat} {x y : Operand} {xs xs' : List Value} {v u : Value} (h : St H w (row e size v n xs :: L)) (hv : v = .slice (some ⟨g, 0, none⟩) n cap) (hx : Ev N ρ x (.pointer (some ⟨g, i, none⟩))) (hy : Ev N ρ y u) (hsz : u.cells.size = 1) (hl : i + 1 ≤ xs.length) (h1 : ∀ u' ∈ u.cells.toList, u'.oneCell' = true) (hsp : splice xs i u.cells.toList = xs') : ∃ w', Ex0 Tryd.prog N ρ w (.store 36 x y) ty w' ∧ St H w' (row e size v n xs' :: L) := by
  obtain ⟨i0, e1, _, e3, _⟩ := inf36
  exact m_storeRow e1 h hv hx hy (by rw [e3]; exact hsz) (by rw [e3]; exact hl) h1 hsp
theorem al36 {N : Nat} {ρ : Nat → Value} {H : Hp} {w : World} {L : List Res} {ty : Nat} {cs : List Value} (h : St H w L) (hv : (.slice none 0 0 : Value).cells = cs.toArray) : ∃ v' w', Ex Tryd.prog N ρ w (.alloc 36) ty v' w' ∧ ∃ g, v' = .pointer (some ⟨g, 0, none⟩) ∧ St H w' (obj g 36 cs :: L) := by
  obtain ⟨i0, e1, e2, _, _⟩ := inf36
  exact m_alloc e1 e2 h hv
theorem sc38 : scalarT Tryd.prog 38 = true := by kernel_rfl
theorem ld38 {N : Nat} {ρ : Nat → Value} {w : World} {ty : Nat} {x : Operand} {ad : Addr} {v : Value} (hx : Ev N ρ x (.pointer (some ad))) (hc : w.cell? ad = some v) : Ex Tryd.prog N ρ w (.load 38 x) ty v w := x_load sc38 hx hc
theorem sto38 {N : Nat} {ρ : Nat → Value} {H : Hp} {w : World} {L : List Res} {g T ty i : Nat} {x y : Operand} {cs cs' : List Value} {v : Value} (h : St H w (obj g T cs :: L)) (hx : Ev N ρ x (.pointer (some ⟨g, i, none⟩))) (hy : Ev N ρ y v) (hsz : v.cells.size = 1) (hl : i + 1 ≤ cs.length) (h1 : ∀ u ∈ v.cells.toList, u.oneCell' = true) (hsp : splice cs i v.cells.toList = cs') : ∃ w', Ex0 Tryd.prog N ρ w (.store 38 x y) ty w' ∧ St H w' (obj g T cs' :: L) := by
  obtain ⟨i0, e1, _, e3, _⟩ := inf38
  exact m_store e1 h hx hy (by rw [e3]; exact hsz) (by rw [e3]; exact hl) h1 hsp
theorem stor38 {N : Nat} {ρ : Nat → Value} {H : Hp} {w : World} {L : List Res} {g e size n cap ty i : Nat} {x y : Operand} {xs xs' : List Value} {v u : Value} (h : St H w (row e size v n xs :: L)) (hv : v = .slice (some ⟨g, 0, none⟩) n cap) (hx : Ev N ρ x (.pointer (some ⟨g, i, none⟩))) (hy : Ev N ρ y u) (hsz : u.cells.size = 1) (hl : i + 1 ≤ xs.length) (h1 : ∀ u' ∈ u.cells.toList, u'.oneCell' = true) (hsp : splice xs i u.cells.toList = xs') : ∃ w', Ex0 Tryd.prog N ρ w (.store 38 x y) ty w' ∧ St H w' (row e size v n xs' :: L) := by
  obtain ⟨i0, e1, _, e3, _⟩ := inf38
  exact m_storeRow e1 h hv hx hy (by rw [e3]; exact hsz) (by rw [e3]; exact hl) h1 hsp
theorem al38 {N : Nat} {ρ : Nat → Value} {H : Hp} {w : World} {L : List Res} {ty : Nat} {cs : List Value} (h : St H w L) (hv : (.slice none 0 0 : Value).cells = cs.toArray) : ∃ v' w', Ex Tryd.prog N ρ w (.alloc 38) ty v' w' ∧ ∃ g, v' = .pointer (some ⟨g, 0, none⟩) ∧ St H w' (obj g 38 cs :: L) := by
  obtain ⟨i0, e1, e2, _, _⟩ := inf38
  exact m_alloc e1 e2 h hv
theorem sc41 : scalarT Tryd.prog 41 = true := by kernel_rfl
theorem ld41 {N : Nat} {ρ : Nat → Value} {w : World} {ty : Nat} {x : Operand} {ad : Addr} {v : Value} (hx : Ev N ρ x (.pointer (some ad))) (hc : w.cell? ad = some v) : Ex Tryd.prog N ρ w (.load 41 x) ty v w := x_load sc41 hx hc
theorem sto41 {N : Nat} {ρ : Nat → Value} {H : Hp} {w : World} {L : List Res} {g T ty i : Nat} {x y : Operand} {cs cs' : List Value} {v : Value} (h : St H w (obj g T cs :: L)) (hx : Ev N ρ x (.pointer (some ⟨g, i, none⟩))) (hy : Ev N ρ y v) (hsz : v.cells.size = 1) (hl : i + 1 ≤ cs.length) (h1 : ∀ u ∈ v.cells.toList, u.oneCell' = true) (hsp : splice cs i v.cells.toList = cs') : ∃ w', Ex0 Tryd.prog N ρ w (.store 41 x y) ty w' ∧ St H w' (obj g T cs' :: L) := by
  obtain ⟨i0, e1, _, e3, _⟩ := inf41
  exact m_store e1 h hx hy (by rw [e3]; exact hsz) (by rw [e3]; exact hl) h1 hsp
theorem stor41 {N : Nat} {ρ : Nat → Value} {H : Hp} {w : World} {L : List Res} {g e size n cap ty i : Nat} {x y : Operand} {xs xs' : List Value} {v u : Value} (h : St H w (row e size v n xs :: L)) (hv : v = .slice (some ⟨g, 0, none⟩) n cap) (hx : Ev N ρ x (.pointer (some ⟨g, i, none⟩))) (hy : Ev N ρ y u) (hsz : u.cells.size = 1) (hl : i + 1 ≤ xs.length) (h1 : ∀ u' ∈ u.cells.toList, u'.oneCell' = true) (hsp : splice xs i u.cells.toList = xs') : ∃ w', Ex0 Tryd.prog N ρ w (.store 41 x y) ty w' ∧ St H w' (row e size v n xs' :: L) := by
  obtain ⟨i0, e1, _, e3, _⟩ := inf41
  exact m_storeRow e1 h hv hx hy (by rw [e3]; exact hsz) (by rw [e3]; exact hl) h1 hsp
theorem al41 {N : Nat} {ρ : Nat → Value} {H : Hp} {w : World} {L : List Res} {ty : Nat} {cs : List Value} (h : St H w L) (hv : (.slice none 0 0 : Value).cells = cs.toArray) : ∃ v' w', Ex Tryd.prog N ρ w (.alloc 41) ty v' w' ∧ ∃ g, v' = .pointer (some ⟨g, 0, none⟩) ∧ St H w' (obj g 41 cs :: L) := by
  obtain ⟨i0, e1, e2, _, _⟩ := inf41
  exact m_alloc e1 e2 h hv
theorem sc42 : scalarT Tryd.prog 42 = true := by kernel_rfl
theorem ld42 {N : Nat} {ρ : Nat → Value} {w : World} {ty : Nat} {x : Operand} {ad : Addr} {v : Value} (hx : Ev N ρ x (.pointer (some ad))) (hc : w.cell? ad = some v) : Ex Tryd.prog N ρ w (.load 42 x) ty v w := x_load sc42 hx hc
theorem sto42 {N : Nat} {ρ : Nat → Value} {H : Hp} {w : World} {L : List Res} {g T ty i : Nat} {x y : Operand} {cs cs' : List Value} {v : Value} (h : St H w (obj g T cs :: L)) (hx : Ev N ρ x (.pointer (some ⟨g, i, none⟩))) (hy : Ev N ρ y v) (hsz : v.cells.size = 1) (hl : i + 1 ≤ cs.length) (h1 : ∀ u ∈ v.cells.toList, u.oneCell' = true) (hsp : splice cs i v.cells.toList = cs') : ∃ w', Ex0 Tryd.prog N ρ w (.store 42 x y) ty w' ∧ St H w' (obj g T cs' :: L) := by
  obtain ⟨i0, e1, _, e3, _⟩ := inf42
  exact m_store e1 h hx hy (by rw [e3]; exact hsz) (by rw [e3]; exact hl) h1 hsp
theorem stor42 {N : Nat} {ρ : Nat → Value} {H : Hp} {w : World} {L : List Res} {g e size n cap ty i : Nat} {x y : Operand} {xs xs' : List Value} {v u : Value} (h : St H w (row e size v n xs :: L)) (hv : v = .slice (some ⟨g, 0, none⟩) n cap) (hx : Ev N ρ x (.pointer (some ⟨g, i, none⟩))) (hy : Ev N ρ y u) (hsz : u.cells.size = 1) (hl : i + 1 ≤ xs.length) (h1 : ∀ u' ∈ u.cells.toList, u'.oneCell' = true) (hsp : splice xs i u.cells.toList = xs') : ∃ w', Ex0 Tryd.prog N ρ w (.store 42 x y) ty w' ∧ St H w' (row e size v n xs' :: L) := by
  obtain ⟨i0, e1, _, e3, _⟩ := inf42
  exact m_storeRow e1 h hv hx hy (by rw [e3]; exact hsz) (by rw [e3]; exact hl) h1 hsp
theorem al42 {N : Nat} {ρ : Nat → Value} {H : Hp} {w : World} {L : List Res} {ty : Nat} {cs : List Value} (h : St H w L) (hv : (.int .u64 0 : Value).cells = cs.toArray) : ∃ v' w', Ex Tryd.prog N ρ w (.alloc 42) ty v' w' ∧ ∃ g, v' = .pointer (some ⟨g, 0, none⟩) ∧ St H w' (obj g 42 cs :: L) := by
  obtain ⟨i0, e1, e2, _, _⟩ := inf42
  exact m_alloc e1 e2 h hv
theorem ag43 : aggT Tryd.prog 43 = true := by kernel_rfl
theorem ld43 {N : Nat} {ρ : Nat → Value} {w : World} {ty : Nat} {x : Operand} {ad : Addr} {cs : List Value} (hx : Ev N ρ x (.pointer (some ad))) (hc : At w ad cs) (hl : cs.length = 2) : Ex Tryd.prog N ρ w (.load 43 x) ty (.agg cs.toArray) w := by
  obtain ⟨i0, h1, _, h3, _⟩ := inf43
  exact x_loadA ag43 h1 hx hc (by rw [h3]; exact hl)
theorem lv43 {w : World} {ad : Addr} {cs : List Value} (hc : At w ad cs) (hl : cs.length = 2) : (loadVar 43 ad).run Tryd.prog w = .ok (.agg cs.toArray) w := by
  obtain ⟨i0, h1, _, h3, _⟩ := inf43
  exact run_loadVar_t ag43 h1 hc (by rw [h3]; exact hl)
theorem sto43 {N : Nat} {ρ : Nat → Value} {H : Hp} {w : World} {L : List Res} {g T ty i : Nat} {x y : Operand} {cs cs' : List Value} {v : Value} (h : St H w (obj g T cs :: L)) (hx : Ev N ρ x (.pointer (some ⟨g, i, none⟩))) (hy : Ev N ρ y v) (hsz : v.cells.size = 2) (hl : i + 2 ≤ cs.length) (h1 : ∀ u ∈ v.cells.toList, u.oneCell' = true) (hsp : splice cs i v.cells.toList = cs') : ∃ w', Ex0 Tryd.prog N ρ w (.store 43 x y) ty w' ∧ St H w' (obj g T cs' :: L) := by
  obtain ⟨i0, e1, _, e3, _⟩ := inf43
  exact m_store e1 h hx hy (by rw [e3]; exact hsz) (by rw [e3]; exact hl) h1 hsp
theorem stor43 {N : Nat} {ρ : Nat → Value} {H : Hp} {w : World} {L : List Res} {g e size n cap ty i : Nat} {x y : Operand} {xs xs' : List Value} {v u : Value} (h : St H w (row e size v n xs :: L)) (hv : v = .slice (some ⟨g, 0, none⟩) n cap) (hx : Ev N ρ x (.pointer (some ⟨g, i, none⟩))) (hy : Ev N ρ y u) (hsz : u.cells.size = 2) (hl : i + 2 ≤ xs.length) (h1 : ∀ u' ∈ u.cells.toList, u'.oneCell' = true) (hsp : splice xs i u.cells.toList = xs') : ∃ w', Ex0 Tryd.prog N ρ w (.store 43 x y) ty w' ∧ St H w' (row e size v n xs' :: L) := by
  obtain ⟨i0, e1, _, e3, _⟩ := inf43
  exact m_storeRow e1 h hv hx hy (by rw [e3]; exact hsz) (by rw [e3]; exact hl) h1 hsp
theorem al43 {N : Nat} {ρ : Nat → Value} {H : Hp} {w : World} {L : List Res} {ty : Nat} {cs : List Value} (h : St H w L) (hv : (.agg #[.int .u64 0, .int .i64 0] : Value).cells = cs.toArray) : ∃ v' w', Ex Tryd.prog N ρ w (.alloc 43) ty v' w' ∧ ∃ g, v' = .pointer (some ⟨g, 0, none⟩) ∧ St H w' (obj g 43 cs :: L) := by
  obtain ⟨i0, e1, e2, _, _⟩ := inf43
  exact m_alloc e1 e2 h hv
theorem ag44 : aggT Tryd.prog 44 = true := by kernel_rfl
theorem ld44 {N : Nat} {ρ : Nat → Value} {w : World} {ty : Nat} {x : Operand} {ad : Addr} {cs : List Value} (hx : Ev N ρ x (.pointer (some ad))) (hc : At w ad cs) (hl : cs.length = 2) : Ex Tryd.prog N ρ w (.load 44 x) ty (.agg cs.toArray) w := by
  obtain ⟨i0, h1, _, h3, _⟩ := inf44
  exact x_loadA ag44 h1 hx hc (by rw [h3]; exact hl)
theorem lv44 {w : World} {ad : Addr} {cs : List Value} (hc : At w ad cs) (hl : cs.length = 2) : (loadVar 44 ad).run Tryd.prog w = .ok (.agg cs.toArray) w := by
  obtain ⟨i0, h1, _, h3, _⟩ := inf44
  exact run_loadVar_t ag44 h1 hc (by rw [h3]; exact hl)
theorem sto44 {N : Nat} {ρ : Nat → Value} {H : Hp} {w : World} {L : List Res} {g T ty i : Nat} {x y : Operand} {cs cs' : List Value} {v : Value} (h : St H w (obj g T cs :: L)) (hx : Ev N ρ x (.pointer (some ⟨g, i, none⟩))) (hy : Ev N ρ y v) (hsz : v.cells.size = 2) (hl : i + 2 ≤ cs.length) (h1 : ∀ u ∈ v.cells.toList, u.oneCell' = true) (hsp : splice cs i v.cells.toList = cs') : ∃ w', Ex0 Tryd.prog N ρ w (.store 44 x y) ty w' ∧ St H w' (obj g T cs' :: L) := by
  obtain ⟨i0, e1, _, e3, _⟩ := inf44
  exact m_store e1 h hx hy (by rw [e3]; exact hsz) (by rw [e3]; exact hl) h1 hsp
theorem stor44 {N : Nat} {ρ : Nat → Value} {H : Hp} {w : World} {L : List Res} {g e size n cap ty i : Nat} {x y : Operand} {xs xs' : List Value} {v u : Value} (h : St H w (row e size v n xs :: L)) (hv : v = .slice (some ⟨g, 0, none⟩) n cap) (hx : Ev N ρ x (.pointer (some ⟨g, i, none⟩))) (hy : Ev N ρ y u) (hsz : u.cells.size = 2) (hl : i + 2 ≤ xs.length) (h1 : ∀ u' ∈ u.cells.toList, u'.oneCell' = true) (hsp : splice xs i u.cells.toList = xs') : ∃ w', Ex0 Tryd.prog N ρ w (.store 44 x y) ty w' ∧ St H w' (row e size v n xs' :: L) := by
  obtain ⟨i0, e1, _, e3, _⟩ := inf44
  exact m_storeRow e1 h hv hx hy (by rw [e3]; exact hsz) (by rw [e3]; exact hl) h1 hsp
theorem al44 {N : Nat} {ρ : Nat → Value} {H : Hp} {w : World} {L : List Res} {ty : Nat} {cs : List Value} (h : St H w L) (hv : (.agg #[.int .u64 0, .int .i64 0] : Value).cells = cs.toArray) : ∃ v' w', Ex Tryd.prog N ρ w (.alloc 44) ty v' w' ∧ ∃ g, v' = .pointer (some ⟨g, 0, none⟩) ∧ St H w' (obj g 44 cs :: L) := by
  obtain ⟨i0, e1, e2, _, _⟩ := inf44
  exact m_alloc e1 e2 h hv
theorem sc45 : scalarT Tryd.prog 45 = true := by kernel_rfl
theorem ld45 {N : Nat} {ρ : Nat → Value} {w : World} {ty : Nat} {x : Operand} {ad : Addr} {v : Value} (hx : Ev N ρ x (.pointer (some ad))) (hc : w.cell? ad = some v) : Ex Tryd.prog N ρ w (.load 45 x) ty v w := x_load sc45 hx hc
theorem sto45 {N : Nat} {ρ : Nat → Value} {H : Hp} {w : World} {L : List Res} {g T ty i : Nat} {x y : Operand} {cs cs' : List Value} {v : Value} (h : St H w (obj g T cs :: L)) (hx : Ev N ρ x (.pointer (some ⟨g, i, none⟩))) (hy : Ev N ρ y v) (hsz : v.cells.size = 1) (hl : i + 1 ≤ cs.length) (h1 : ∀ u ∈ v.cells.toList, u.oneCell' = true) (hsp : splice cs i v.cells.toList = cs') : ∃ w', Ex0 Tryd.prog N ρ w (.store 45 x y) ty w' ∧ St H w' (obj g T cs' :: L) := by
  obtain ⟨i0, e1, _, e3, _⟩ := inf45
  exact m_store e1 h hx hy (by rw [e3]; exact hsz) (by rw [e3]; exact hl) h1 hsp
theorem stor45 {N : Nat} {ρ : Nat → Value} {H : Hp} {w : World} {L : List Res} {g e size n cap ty i : Nat} {x y : Operand} {xs xs' : List Value} {v u : Value} (h : St H w (row e size v n xs :: L)) (hv : v = .slice (some ⟨g, 0, none⟩) n cap) (hx : Ev N ρ x (.pointer (some ⟨g, i, none⟩))) (hy : Ev N ρ y u) (hsz : u.cells.size = 1) (hl : i + 1 ≤ xs.length) (h1 : ∀ u' ∈ u.cells.toList, u'.oneCell' = true) (hsp : splice xs i u.cells.toList = xs') : ∃ w', Ex0 Tryd.prog N ρ w (.store 45 x y) ty w' ∧ St H w' (row e size v n xs' :: L) := by
  obtain ⟨i0, e1, _, e3, _⟩ := inf45
  exact m_storeRow e1 h hv hx hy (by rw [e3]; exact hsz) (by rw [e3]; exact hl) h1 hsp
theorem al45 {N : Nat} {ρ : Nat → Value} {H : Hp} {w : World} {L : List Res} {ty : Nat} {cs : List Value} (h : St H w L) (hv : (.int .u16 0 : Value).cells = cs.toArray) : ∃ v' w', Ex Tryd.prog N ρ w (.alloc 45) ty v' w' ∧ ∃ g, v' = .pointer (some ⟨g, 0, none⟩) ∧ St H w' (obj g 45 cs :: L) := by
  obtain ⟨i0, e1, e2, _, _⟩ := inf45
  exact m_alloc e1 e2 h hv
theorem ag46 : aggT Tryd.prog 46 = true := by kernel_rfl
theorem ld46 {N : Nat} {ρ : Nat → Value} {w : World} {ty : Nat} {x : Operand} {ad : Addr} {cs : List Value} (hx : Ev N ρ x (.pointer (some ad))) (hc : At w ad cs) (hl : cs.length = 3) : Ex Tryd.prog N ρ w (.load 46 x) ty (.agg cs.toArray) w := by
  obtain ⟨i0, h1, _, h3, _⟩ := inf46
  exact x_loadA ag46 h1 hx hc (by rw [h3]; exact hl)
theorem lv46 {w : World} {ad : Addr} {cs : List Value} (hc : At w ad cs) (hl : cs.length = 3) : (loadVar 46 ad).run Tryd.prog w = .ok (.agg cs.toArray) w := by
  obtain ⟨i0, h1, _, h3, _⟩ := inf46
  exact run_loadVar_t ag46 h1 hc (by rw [h3]; exact hl)
theorem sto46 {N : Nat} {ρ : Nat → Value} {H : Hp} {w : World} {L : List Res} {g T ty i : Nat} {x y : Operand} {cs cs' : List Value} {v : Value} (h : St H w (obj g T cs :: L)) (hx : Ev N ρ x (.pointer (some ⟨g, i, none⟩))) (hy : Ev N ρ y v) (hsz : v.cells.size = 3) (hl : i + 3 ≤ cs.length) (h1 : ∀ u ∈ v.cells.toList, u.oneCell' = true) (hsp : splice cs i v.cells.toList = cs') : ∃ w', Ex0 Tryd.prog N ρ w (.store 46 x y) ty w' ∧ St H w' (obj g T cs' :: L) := by
  obtain ⟨i0, e1, _, e3, _⟩ := inf46
  exact m_store e1 h hx hy (by rw [e3]; exact hsz) (by rw [e3]; exact hl) h1 hsp
theorem stor46 {N : Nat} {ρ : Nat → Value} {H : Hp} {w : World} {L : List Res} {g e size n cap ty i : Nat} {x y : Operand} {xs xs' : List Value} {v u : Value} (h : St H w (row e size v n xs :: L)) (hv : v = .slice (some ⟨g, 0, none⟩) n cap) (hx : Ev N ρ x (.pointer (some ⟨g, i, none⟩))) (hy : Ev N ρ y u) (hsz : u.cells.size = 3) (hl : i + 3 ≤ xs.length) (h1 : ∀ u' ∈ u.cells.toList, u'.oneCell' = true) (hsp : splice xs i u.cells.toList = xs') : ∃ w', Ex0 Tryd.prog N ρ w (.store 46 x y) ty w' ∧ St H w' (row e size v n xs' :: L) := by
  obtain ⟨i0, e1, _, e3, _⟩ := inf46
  exact m_storeRow e1 h hv hx hy (by rw [e3]; exact hsz) (by rw [e3]; exact hl) h1 hsp
theorem al46 {N : Nat} {ρ : Nat → Value} {H : Hp} {w : World} {L : List Res} {ty : Nat} {cs : List Value} (h : St H w L) (hv : (.agg #[.int .u64 0, .int .i64 0, .int .u16 0] : Value).cells = cs.toArray) : ∃ v' w', Ex Tryd.prog N ρ w (.alloc 46) ty v' w' ∧ ∃ g, v' = .pointer (some ⟨g, 0, none⟩) ∧ St H w' (obj g 46 cs :: L) := by
  obtain ⟨i0, e1, e2, _, _⟩ := inf46
  exact m_alloc e1 e2 h hv
theorem ag47 : aggT Tryd.prog 47 = true := by kernel_rfl
theorem ld47 {N : Nat} {ρ : Nat → Value} {w : World} {ty : Nat} {x : Operand} {ad : Addr} {cs : List Value} (hx : Ev N ρ x (.pointer (some ad))) (hc : At w ad cs) (hl : cs.length = 3) : Ex Tryd.prog N ρ w (.load 47 x) ty (.agg cs.toArray) w := by
  obtain ⟨i0, h1, _, h3, _⟩ := inf47
  exact x_loadA ag47 h1 hx hc (by rw [h3]; exact hl)
theorem lv47 {w : World} {ad : Addr} {cs : List Value} (hc : At w ad cs) (hl : cs.length = 3) : (loadVar 47 ad).run Tryd.prog w = .ok (.agg cs.toArray) w := by
  obtain ⟨i0, h1, _, h3, _⟩ := inf47
  exact run_loadVar_t ag47 h1 hc (by rw [h3]; exact hl)
theorem sto47 {N : Nat} {ρ : Nat → Value} {H : Hp} {w : World} {L : List Res} {g T ty i : Nat} {x y : Operand} {cs cs' : List Value} {v : Value} (h : St H w (obj g T cs :: L)) (hx : Ev N ρ x (.pointer (some ⟨g, i, none⟩))) (hy : Ev N ρ y v) (hsz : v.cells.size = 3) (hl : i + 3 ≤ cs.length) (h1 : ∀ u ∈ v.cells.toList, u.oneCell' = true) (hsp : splice cs i v.cells.toList = cs') : ∃ w', Ex0 Tryd.prog N ρ w (.store 47 x y) ty w' ∧ St H w' (obj g T cs' :: L) := by
  obtain ⟨i0, e1, _, e3, _⟩ := inf47
  exact m_store e1 h hx hy (by rw [e3]; exact hsz) (by rw [e3]; exact hl) h1 hsp
theorem stor47 {N : Nat} {ρ : Nat → Value} {H : Hp} {w : World} {L : List Res} {g e size n cap ty i : Nat} {x y : Operand} {xs xs' : List Value} {v u : Value} (h : St H w (row e size v n xs :: L)) (hv : v = .slice (some ⟨g, 0, none⟩) n cap) (hx : Ev N ρ x (.pointer (some ⟨g, i, none⟩))) (hy : Ev N ρ y u) (hsz : u.cells.size = 3) (hl : i + 3 ≤ xs.length) (h1 : ∀ u' ∈ u.cells.toList, u'.oneCell' = true) (hsp : splice xs i u.cells.toList = xs') : ∃ w', Ex0 Tryd.prog N ρ w (.store 47 x y) ty w' ∧ St H w' (row e size v n xs' :: L) := by
  obtain ⟨i0, e1, _, e3, _⟩ := inf47
  exact m_storeRow e1 h hv hx hy (by rw [e3]; exact hsz) (by rw [e3]; exact hl) h1 hsp
theorem al47 {N : Nat} {ρ : Nat → Value} {H : Hp} {w : World} {L : List Res} {ty : Nat} {cs : List Value} (h : St H w L) (hv : (.agg #[.int .u64 0, .int .i64 0, .int .u16 0] : Value).cells = cs.toArray) : ∃ v' w', Ex Tryd.prog N ρ w (.alloc 47) ty v' w' ∧ ∃ g, v' = .pointer (some ⟨g, 0, none⟩) ∧ St H w' (obj g 47 cs :: L) := by
  obtain ⟨i0, e1, e2, _, _⟩ := inf47
  exact m_alloc e1 e2 h hv
theorem ag48 : aggT Tryd.prog 48 = true := by kernel_rfl
theorem ld48 {N : Nat} {ρ : Nat → Value} {w : World} {ty : Nat} {x : Operand} {ad : Addr} {cs : List Value} (hx : Ev N ρ x (.pointer (some ad))) (hc : At w ad cs) (hl : cs.length = 6) : Ex Tryd.prog N ρ w (.load 48 x) ty (.agg cs.toArray) w := by
  obtain ⟨i0, h1, _, h3, _⟩ := inf48
  exact x_loadA ag48 h1 hx hc (by rw [h3]; exact hl)
theorem lv48 {w : World} {ad : Addr} {cs : List Value} (hc : At w ad cs) (hl : cs.length = 6) : (loadVar 48 ad).run Tryd.prog w = .ok (.agg cs.toArray) w := by
  obtain ⟨i0, h1, _, h3, _⟩ := inf48
  exact run_loadVar_t ag48 h1 hc (by rw [h3]; exact hl)
theorem sto48 {N : Nat} {ρ : Nat → Value} {H : Hp} {w : World} {L : List Res} {g T ty i : Nat} {x y : Operand} {cs cs' : List Value} {v : Value} (h : St H w (obj g T cs :: L)) (hx : Ev N ρ x (.pointer (some ⟨g, i, none⟩))) (hy : Ev N ρ y v) (hsz : v.cells.size = 6) (hl : i + 6 ≤ cs.length) (h1 : ∀ u ∈ v.cells.toList, u.oneCell' = true) (hsp : splice cs i v.cells.toList = cs') : ∃ w', Ex0 Tryd.prog N ρ w (.store 48 x y) ty w' ∧ St H w' (obj g T cs' :: L) := by
  obtain ⟨i0, e1, _, e3, _⟩ := inf48
  exact m_store e1 h hx hy (by rw [e3]; exact hsz) (by rw [e3]; exact hl) h1 hsp
theorem stor48 {N : Nat} {ρ : Nat → Value} {H : Hp} {w : World} {L : List Res} {g e size n cap ty i : Nat} {x y : Operand} {xs xs' : List Value} {v u : Value} (h : St H w (row e size v n xs :: L)) (hv : v = .slice (some ⟨g, 0, none⟩) n cap) (hx : Ev N ρ x (.pointer (some ⟨g, i, none⟩))) (hy : Ev N ρ y u) (hsz : u.cells.size = 6) (hl : i + 6 ≤ xs.length) (h1 : ∀ u' ∈ u.cells.toList, u'.oneCell' = true) (hsp : splice xs i u.cells.toList = xs') : ∃ w', Ex0 Tryd.prog N ρ w (.store 48 x y) ty w' ∧ St H w' (row e size v n xs' :: L) := by
  obtain ⟨i0, e1, _, e3, _⟩ := inf48
  exact m_storeRow e1 h hv hx hy (by rw [e3]; exact hsz) (by rw [e3]; exact hl) h1 hsp
theorem al48 {N : Nat} {ρ : Nat → Value} {H : Hp} {w : World} {L : List Res} {ty : Nat} {cs : List Value} (h : St H w L) (hv : (.agg #[.int .u8 0, .int .u64 0, .int .i64 0, .int .u16 0, .int .i64 0, .slice none 0 0] : Value).cells = cs.toArray) : ∃ v' w', Ex Tryd.prog N ρ w (.alloc 48) ty v' w' ∧ ∃ g, v' = .pointer (some ⟨g, 0, none⟩) ∧ St H w' (obj g 48 cs :: L) := by
  obtain ⟨i0, e1, e2, _, _⟩ := inf48
  exact m_alloc e1 e2 h hv
theorem ag49 : aggT Tryd.prog 49 = true := by kernel_rfl
theorem ld49 {N : Nat} {ρ : Nat → Value} {w : World} {ty : Nat} {x : Operand} {ad : Addr} {cs : List Value} (hx : Ev N ρ x (.pointer (some ad))) (hc : At w ad cs) (hl : cs.length = 6) : Ex Tryd.prog N ρ w (.load 49 x) ty (.agg cs.toArray) w := by
  obtain ⟨i0, h1, _, h3, _⟩ := inf49
  exact x_loadA ag49 h1 hx hc (by rw [h3]; exact hl)
theorem lv49 {w : World} {ad : Addr} {cs : List Value} (hc : At w ad cs) (hl : cs.length = 6) : (loadVar 49 ad).run Tryd.prog w = .ok (.agg cs.toArray) w := by
  obtain ⟨i0, h1, _, h3, _⟩ := inf49
  exact run_loadVar_t ag49 h1 hc (by rw [h3]; exact hl)
theorem sto49 {N : Nat} {ρ : Nat → Value} {H : Hp} {w : World} {L : List Res} {g T ty i : Nat} {x y : Operand} {cs cs' : List Value} {v : Value} (h : St H w (obj g T cs :: L)) (hx : Ev N ρ x (.pointer (some ⟨g, i, none⟩))) (hy : Ev N ρ y v) (hsz : v.cells.size = 6) (hl : i + 6 ≤ cs.length) (h1 : ∀ u ∈ v.cells.toList, u.oneCell' = true) (hsp : splice cs i v.cells.toList = cs') : ∃ w', Ex0 Tryd.prog N ρ w (.store 49 x y) ty w' ∧ St H w' (obj g T cs' :: L) := by
  obtain ⟨i0, e1, _, e3, _⟩ := inf49
  exact m_store e1 h hx hy (by rw [e3]; exact hsz) (by rw [e3]; exact hl) h1 hsp
theorem stor49 {N : Nat} {ρ : Nat → Value} {H : Hp} {w : World} {L : List Res} {g e size n cap ty i : Nat} {x y : Operand} {xs xs' : List Value} {v u : Value} (h : St H w (row e size v n xs :: L)) (hv : v = .slice (some ⟨g, 0, none⟩) n cap) (hx : Ev N ρ x (.pointer (some ⟨g, i, none⟩))) (hy : Ev N ρ y u) (hsz : u.cells.size = 6) (hl : i + 6 ≤ xs.length) (h1 : ∀ u' ∈ u.cells.toList, u'.oneCell' = true) (hsp : splice xs i u.cells.toList = xs') : ∃ w', Ex0 Tryd.prog N ρ w (.store 49 x y) ty w' ∧ St H w' (row e size v n xs' :: L) := by
  obtain ⟨i0, e1, _, e3, _⟩ := inf49
  exact m_storeRow e1 h hv hx hy (by rw [e3]; exact hsz) (by rw [e3]; exact hl) h1 hsp
theorem al49 {N : Nat} {ρ : Nat → Value} {H : Hp} {w : World} {L : List Res} {ty : Nat} {cs : List Value} (h : St H w L) (hv : (.agg #[.int .u8 0, .int .u64 0, .int .i64 0, .int .u16 0, .int .i64 0, .slice none 0 0] : Value).cells = cs.toArray) : ∃ v' w', Ex Tryd.prog N ρ w (.alloc 49) ty v' w' ∧ ∃ g, v' = .pointer (some ⟨g, 0, none⟩) ∧ St H w' (obj g 49 cs :: L) := by
  obtain ⟨i0, e1, e2, _, _⟩ := inf49
  exact m_alloc e1 e2 h hv
theorem sc58 : scalarT Tryd.prog 58 = true := by kernel_rfl
theorem ld58 {N : Nat} {ρ : Nat → Value} {w : World} {ty : Nat} {x : Operand} {ad : Addr} {v : Value} (hx : Ev N ρ x (.pointer (some ad))) (hc : w.cell? ad = some v) : Ex Tryd.prog N ρ w (.load 58 x) ty v w := x_load sc58 hx hc
theorem sto58 {N : Nat} {ρ : Nat → Value} {H : Hp} {w : World} {L : List Res} {g T ty i : Nat} {x y : Operand} {cs cs' : List Value} {v : Value} (h : St H w (obj g T cs :: L)) (hx : Ev N ρ x (.pointer (some ⟨g, i, none⟩))) (hy : Ev N ρ y v) (hsz : v.cells.size = 1) (hl : i + 1 ≤ cs.length) (h1 : ∀ u ∈ v.cells.toList, u.oneCell' = true) (hsp : splice cs i v.cells.toList = cs') : ∃ w', Ex0 Tryd.prog N ρ w (.store 58 x y) ty w' ∧ St H w' (obj g T cs' :: L) := by
  obtain ⟨i0, e1, _, e3, _⟩ := inf58
  exact m_store e1 h hx hy (by rw [e3]; exact hsz) (by rw [e3]; exact hl) h1 hsp
theorem stor58 {N : Nat} {ρ : Nat → Value} {H : Hp} {w : World} {L : List Res} {g e size n cap ty i : Nat} {x y : Operand} {xs xs' : List Value} {v u : Value} (h : St H w (row e size v n xs :: L)) (hv : v = .slice (some ⟨g, 0, none⟩) n cap) (hx : Ev N ρ x (.pointer (some ⟨g, i, none⟩))) (hy : Ev N ρ y u) (hsz : u.cells.size = 1) (hl : i + 1 ≤ xs.length) (h1 : ∀ u' ∈ u.cells.toList, u'.oneCell' = true) (hsp : splice xs i u.cells.toList = xs') : ∃ w', Ex0 Tryd.prog N ρ w (.store 58 x y) ty w' ∧ St H w' (row e size v n xs' :: L) := by
  obtain ⟨i0, e1, _, e3, _⟩ := inf58
  exact m_storeRow e1 h hv hx hy (by rw [e3]; exact hsz) (by rw [e3]; exact hl) h1 hsp
theorem al58 {N : Nat} {ρ : Nat → Value} {H : Hp} {w : World} {L : List Res} {ty : Nat} {cs : List Value} (h : St H w L) (hv : (.slice none 0 0 : Value).cells = cs.toArray) : ∃ v' w', Ex Tryd.prog N ρ w (.alloc 58) ty v' w' ∧ ∃ g, v' = .pointer (some ⟨g, 0, none⟩) ∧ St H w' (obj g 58 cs :: L) := by
  obtain ⟨i0, e1, e2, _, _⟩ := inf58
  exact m_alloc e1 e2 h hv
theorem ag61 : aggT Tryd.prog 61 = true := by kernel_rfl
theorem ld61 {N : Nat} {ρ : Nat → Value} {w : World} {ty : Nat} {x : Operand} {ad : Addr} {cs : List Value} (hx : Ev N ρ x (.pointer (some ad))) (hc : At w ad cs) (hl : cs.length = 9) : Ex Tryd.prog N ρ w (.load 61 x) ty (.agg cs.toArray) w := by
  obtain ⟨i0, h1, _, h3, _⟩ := inf61
  exact x_loadA ag61 h1 hx hc (by rw [h3]; exact hl)
theorem lv61 {w : World} {ad : Addr} {cs : List Value} (hc : At w ad cs) (hl : cs.length = 9) : (loadVar 61 ad).run Tryd.prog w = .ok (.agg cs.toArray) w := by
  obtain ⟨i0, h1, _, h3, _⟩ := inf61
  exact run_loadVar_t ag61 h1 hc (by rw [h3]; exact hl)
theorem sto61 {N : Nat} {ρ : Nat → Value} {H : Hp} {w : World} {L : List Res} {g T ty i : Nat} {x y : Operand} {cs cs' : List Value} {v : Value} (h : St H w (obj g T cs :: L)) (hx : Ev N ρ x (.pointer (some ⟨g, i, none⟩))) (hy : Ev N ρ y v) (hsz : v.cells.size = 9) (hl : i + 9 ≤ cs.length) (h1 : ∀ u ∈ v.cells.toList, u.oneCell' = true) (hsp : splice cs i v.cells.toList = cs') : ∃ w', Ex0 Tryd.prog N ρ w (.store 61 x y) ty w' ∧ St H w' (obj g T cs' :: L) := by
  obtain ⟨i0, e1, _, e3, _⟩ := inf61
  exact m_store e1 h hx hy (by rw [e3]; exact hsz) (by rw [e3]; exact hl) h1 hsp
theorem stor61 {N : Nat} {ρ : Nat → Value} {H : Hp} {w : World} {L : List Res} {g e size n cap ty i : Nat} {x y : Operand} {xs xs' : List Value} {v u : Value} (h : St H w (row e size v n xs :: L)) (hv : v = .slice (some ⟨g, 0, none⟩) n cap) (hx : Ev N ρ x (.pointer (some ⟨g, i, none⟩))) (hy : Ev N ρ y u) (hsz : u.cells.size = 9) (hl : i + 9 ≤ xs.length) (h1 : ∀ u' ∈ u.cells.toList, u'.oneCell' = true) (hsp : splice xs i u.cells.toList = xs') : ∃ w', Ex0 Tryd.prog N ρ w (.store 61 x y) ty w' ∧ St H w' (row e size v n xs' :: L) := by
  obtain ⟨i0, e1, _, e3, _⟩ := inf61
  exact m_storeRow e1 h hv hx hy (by rw [e3]; exact hsz) (by rw [e3]; exact hl) h1 hsp
theorem al61 {N : Nat} {ρ : Nat → Value} {H : Hp} {w : World} {L : List Res} {ty : Nat} {cs : List Value} (h : St H w L) (hv : (.agg #[.int .i64 0, .int .u64 0, .int .i64 0, .int .u16 0, .slice none 0 0, .slice none 0 0, .int .i64 0, .int .u64 0, .int .i64 0] : Value).cells = cs.toArray) : ∃ v' w', Ex Tryd.prog N ρ w (.alloc 61) ty v' w' ∧ ∃ g, v' = .pointer (some ⟨g, 0, none⟩) ∧ St H w' (obj g 61 cs :: L) := by
  obtain ⟨i0, e1, e2, _, _⟩ := inf61
  exact m_alloc e1 e2 h hv
theorem ag62 : aggT Tryd.prog 62 = true := by kernel_rfl
theorem ld62 {N : Nat} {ρ : Nat → Value} {w : World} {ty : Nat} {x : Operand} {ad : Addr} {cs : List Value} (hx : Ev N ρ x (.pointer (some ad))) (hc : At w ad cs) (hl : cs.length = 9) : Ex Tryd.prog N ρ w (.load 62 x) ty (.agg cs.toArray) w := by
  obtain ⟨i0, h1, _, h3, _⟩ := inf62
  exact x_loadA ag62 h1 hx hc (by rw [h3]; exact hl)
theorem lv62 {w : World} {ad : Addr} {cs : List Value} (hc : At w ad cs) (hl : cs.length = 9) : (loadVar 62 ad).run Tryd.prog w = .ok (.agg cs.toArray) w := by
  obtain ⟨i0, h1, _, h3, _⟩ := inf62
  exact run_loadVar_t ag62 h1 hc (by rw [h3]; exact hl)
theorem sto62 {N : Nat} {ρ : Nat → Value} {H : Hp} {w : World} {L : List Res} {g T ty i : Nat} {x y : Operand} {cs cs' : List Value} {v : Value} (h : St H w (obj g T cs :: L)) (hx : Ev N ρ x (.pointer (some ⟨g, i, none⟩))) (hy : Ev N ρ y v) (hsz : v.cells.size = 9) (hl : i + 9 ≤ cs.length) (h1 : ∀ u ∈ v.cells.toList, u.oneCell' = true) (hsp : splice cs i v.cells.toList = cs') : ∃ w', Ex0 Tryd.prog N ρ w (.store 62 x y) ty w' ∧ St H w' (obj g T cs' :: L) := by
  obtain ⟨i0, e1, _, e3, _⟩ := inf62
  exact m_store e1 h hx hy (by rw [e3]; exact hsz) (by rw [e3]; exact hl) h1 hsp
theorem stor62 {N : Nat} {ρ : Nat → Value} {H : Hp} {w : World} {L : List Res} {g e size n cap ty i : Nat} {x y : Operand} {xs xs' : List Value} {v u : Value} (h : St H w (row e size v n xs :: L)) (hv : v = .slice (some ⟨g, 0, none⟩) n cap) (hx : Ev N ρ x (.pointer (some ⟨g, i, none⟩))) (hy : Ev N ρ y u) (hsz : u.cells.size = 9) (hl : i + 9 ≤ xs.length) (h1 : ∀ u' ∈ u.cells.toList, u'.oneCell' = true) (hsp : splice xs i u.cells.toList = xs') : ∃ w', Ex0 Tryd.prog N ρ w (.store 62 x y) ty w' ∧ St H w' (row e size v n xs' :: L) := by
  obtain ⟨i0, e1, _, e3, _⟩ := inf62
  exact m_storeRow e1 h hv hx hy (by rw [e3]; exact hsz) (by rw [e3]; exact hl) h1 hsp
theorem al62 {N : Nat} {ρ : Nat → Value} {H : Hp} {w : World} {L : List Res} {ty : Nat} {cs : List Value} (h : St H w L) (hv : (.agg #[.int .i64 0, .int .u64 0, .int .i64 0, .int .u16 0, .slice none 0 0, .slice none 0 0, .int .i64 0, .int .u64 0, .int .i64 0] : Value).cells = cs.toArray) : ∃ v' w', Ex Tryd.prog N ρ w (.alloc 62) ty v' w' ∧ ∃ g, v' = .pointer (some ⟨g, 0, none⟩) ∧ St H w' (obj g 62 cs :: L) := by
  obtain ⟨i0, e1, e2, _, _⟩ := inf62
  exact m_alloc e1 e2 h hv
theorem sc65 : scalarT Tryd.prog 65 = true := by kernel_rfl
theorem ld65 {N : Nat} {ρ : Nat → Value} {w : World} {ty : Nat} {x : Operand} {ad : Addr} {v : Value} (hx : Ev N ρ x (.pointer (some ad))) (hc : w.cell? ad = some v) : Ex Tryd.prog N ρ w (.load 65 x) ty v w := x_load sc65 hx hc
theorem sto65 {N : Nat} {ρ : Nat → Value} {H : Hp} {w : World} {L : List Res} {g T ty i : Nat} {x y : Operand} {cs cs' : List Value} {v : Value} (h : St H w (obj g T cs :: L)) (hx : Ev N ρ x (.pointer (some ⟨g, i, none⟩))) (hy : Ev N ρ y v) (hsz : v.cells.size = 1) (hl : i + 1 ≤ cs.length) (h1 : ∀ u ∈ v.cells.toList, u.oneCell' = true) (hsp : splice cs i v.cells.toList = cs') : ∃ w', Ex0 Tryd.prog N ρ w (.store 65 x y) ty w' ∧ St H w' (obj g T cs' :: L) := by
  obtain ⟨i0, e1, _, e3, _⟩ := inf65
  exact m_store e1 h hx hy (by rw [e3]; exact hsz) (by rw [e3]; exact hl) h1 hsp
theorem stor65 {N : Nat} {ρ : Nat → Value} {H : Hp} {w : World} {L : List Res} {g e size n cap ty i : Nat} {x y : Operand} {xs xs' : List Value} {v u : Value} (h : St H w (row e size v n xs :: L)) (hv : v = .slice (some ⟨g, 0, none⟩) n cap) (hx : Ev N ρ x (.pointer (some ⟨g, i, none⟩))) (hy : Ev N ρ y u) (hsz : u.cells.size = 1) (hl : i + 1 ≤ xs.length) (h1 : ∀ u' ∈ u.cells.toList, u'.oneCell' = true) (hsp : splice xs i u.cells.toList = xs') : ∃ w', Ex0 Tryd.prog N ρ w (.store 65 x y) ty w' ∧ St H w' (row e size v n xs' :: L) := by
  obtain ⟨i0, e1, _, e3, _⟩ := inf65
  exact m_storeRow e1 h hv hx hy (by rw [e3]; exact hsz) (by rw [e3]; exact hl) h1 hsp
theorem al65 {N : Nat} {ρ : Nat → Value} {H : Hp} {w : World} {L : List Res} {ty : Nat} {cs : List Value} (h : St H w L) (hv : (.slice none 0 0 : Value).cells = cs.toArray) : ∃ v' w', Ex Tryd.prog N ρ w (.alloc 65) ty v' w' ∧ ∃ g, v' = .pointer (some ⟨g, 0, none⟩) ∧ St H w' (obj g 65 cs :: L) := by
  obtain ⟨i0, e1, e2, _, _⟩ := inf65
  exact m_alloc e1 e2 h hv
theorem ag66 : aggT Tryd.prog 66 = true := by kernel_rfl
theorem ld66 {N : Nat} {ρ : Nat → Value} {w : World} {ty : Nat} {x : Operand} {ad : Addr} {cs : List Value} (hx : Ev N ρ x (.pointer (some ad))) (hc : At w ad cs) (hl : cs.length = 4) : Ex Tryd.prog N ρ w (.load 66 x) ty (.agg cs.toArray) w := by
  obtain ⟨i0, h1, _, h3, _⟩ := inf66
  exact x_loadA ag66 h1 hx hc (by rw [h3]; exact hl)
theorem lv66 {w : World} {ad : Addr} {cs : List Value} (hc : At w ad cs) (hl : cs.length = 4) : (loadVar 66 ad).run Tryd.prog w = .ok (.agg cs.toArray) w := by
  obtain ⟨i0, h1, _, h3, _⟩ := inf66
  exact run_loadVar_t ag66 h1 hc (by rw [h3]; exact hl)
theorem sto66 {N : Nat} {ρ : Nat → Value} {H : Hp} {w : World} {L : List Res} {g T ty i : Nat} {x y : Operand} {cs cs' : List Value} {v : Value} (h : St H w (obj g T cs :: L)) (hx : Ev N ρ x (.pointer (some ⟨g, i, none⟩))) (hy : Ev N ρ y v) (hsz : v.cells.size = 4) (hl : i + 4 ≤ cs.length) (h1 : ∀ u ∈ v.cells.toList, u.oneCell' = true) (hsp : splice cs i v.cells.toList = cs') : ∃ w', Ex0 Tryd.prog N ρ w (.store 66 x y) ty w' ∧ St H w' (obj g T cs' :: L) := by
  obtain ⟨i0, e1, _, e3, _⟩ := inf66
  exact m_store e1 h hx hy (by rw [e3]; exact hsz) (by rw [e3]; exact hl) h1 hsp
theorem stor66 {N : Nat} {ρ : Nat → Value} {H : Hp} {w : World} {L : List Res} {g e size n cap ty i : Nat} {x y : Operand} {xs xs' : List Value} {v u : Value} (h : St H w (row e size v n xs :: L)) (hv : v = .slice (some ⟨g, 0, none⟩) n cap) (hx : Ev N ρ x (.pointer (some ⟨g, i, none⟩))) (hy : Ev N ρ y u) (hsz : u.cells.size = 4) (hl : i + 4 ≤ xs.length) (h1 : ∀ u' ∈ u.cells.toList, u'.oneCell' = true) (hsp : splice xs i u.cells.toList = xs') : ∃ w', Ex0 Tryd.prog N ρ w (.store 66 x y) ty w' ∧ St H w' (row e size v n xs' :: L) := by
  obtain ⟨i0, e1, _, e3, _⟩ := inf66
  exact m_storeRow e1 h hv hx hy (by rw [e3]; exact hsz) (by rw [e3]; exact hl) h1 hsp
theorem al66 {N : Nat} {ρ : Nat → Value} {H : Hp} {w : World} {L : List Res} {ty : Nat} {cs : List Value} (h : St H w L) (hv : (.agg #[.int .u16 0, .slice none 0 0, .slice none 0 0, .slice none 0 0] : Value).cells = cs.toArray) : ∃ v' w', Ex Tryd.prog N ρ w (.alloc 66) ty v' w' ∧ ∃ g, v' = .pointer (some ⟨g, 0, none⟩) ∧ St H w' (obj g 66 cs :: L) := by
  obtain ⟨i0, e1, e2, _, _⟩ := inf66
  exact m_alloc e1 e2 h hv
theorem ag67 : aggT Tryd.prog 67 = true := by kernel_rfl
theorem ld67 {N : Nat} {ρ : Nat → Value} {w : World} {ty : Nat} {x : Operand} {ad : Addr} {cs : List Value} (hx : Ev N ρ x (.pointer (some ad))) (hc : At w ad cs) (hl : cs.length = 4) : Ex Tryd.prog N ρ w (.load 67 x) ty (.agg cs.toArray) w := by
  obtain ⟨i0, h1, _, h3, _⟩ := inf67
  exact x_loadA ag67 h1 hx hc (by rw [h3]; exact hl)
theorem lv67 {w : World} {ad : Addr} {cs : List Value} (hc : At w ad cs) (hl : cs.length = 4) : (loadVar 67 ad).run Tryd.prog w = .ok (.agg cs.toArray) w := by
  obtain ⟨i0, h1, _, h3, _⟩ := inf67
  exact run_loadVar_t ag67 h1 hc (by rw [h3]; exact hl)
theorem sto67 {N : Nat} {ρ : Nat → Value} {H : Hp} {w : World} {L : List Res} {g T ty i : Nat} {x y : Operand} {cs cs' : List Value} {v : Value} (h : St H w (obj g T cs :: L)) (hx : Ev N ρ x (.pointer (some ⟨g, i, none⟩))) (hy : Ev N ρ y v) (hsz : v.cells.size = 4) (hl : i + 4 ≤ cs.length) (h1 : ∀ u ∈ v.cells.toList, u.oneCell' = true) (hsp : splice cs i v.cells.toList = cs') : ∃ w', Ex0 Tryd.prog N ρ w (.store 67 x y) ty w' ∧ St H w' (obj g T cs' :: L) := by
  obtain ⟨i0, e1, _, e3, _⟩ := inf67
  exact m_store e1 h hx hy (by rw [e3]; exact hsz) (by rw [e3]; exact hl) h1 hsp
theorem stor67 {N : Nat} {ρ : Nat → Value} {H : Hp} {w : World} {L : List Res} {g e size n cap ty i : Nat} {x y : Operand} {xs xs' : List Value} {v u : Value} (h : St H w (row e size v n xs :: L)) (hv : v = .slice (some ⟨g, 0, none⟩) n cap) (hx : Ev N ρ x (.pointer (some ⟨g, i, none⟩))) (hy : Ev N ρ y u) (hsz : u.cells.size = 4) (hl : i + 4 ≤ xs.length) (h1 : ∀ u' ∈ u.cells.toList, u'.oneCell' = true) (hsp : splice xs i u.cells.toList = xs') : ∃ w', Ex0 Tryd.prog N ρ w (.store 67 x y) ty w' ∧ St H w' (row e size v n xs' :: L) := by
  obtain ⟨i0, e1, _, e3, _⟩ := inf67
  exact m_storeRow e1 h hv hx hy (by rw [e3]; exact hsz) (by rw [e3]; exact hl) h1 hsp
theorem al67 {N : Nat} {ρ : Nat → Value} {H : Hp} {w : World} {L : List Res} {ty : Nat} {cs : List Value} (h : St H w L) (hv : (.agg #[.int .u16 0, .slice none 0 0, .slice none 0 0, .slice none 0 0] : Value).cells = cs.toArray) : ∃ v' w', Ex Tryd.prog N ρ w (.alloc 67) ty v' w' ∧ ∃ g, v' = .pointer (some ⟨g, 0, none⟩) ∧ St H w' (obj g 67 cs :: L) := by
  obtain ⟨i0, e1, e2, _, _⟩ := inf67
  exact m_alloc e1 e2 h hv
theorem ag68 : aggT Tryd.prog 68 = true := by kernel_rfl
theorem ld68 {N : Nat} {ρ : Nat → Value} {w : World} {ty : Nat} {x : Operand} {ad : Addr} {cs : List Value} (hx : Ev N ρ x (.pointer (some ad))) (hc : At w ad cs) (hl : cs.length = 2) : Ex Tryd.prog N ρ w (.load 68 x) ty (.agg cs.toArray) w := by
  obtain ⟨i0, h1, _, h3, _⟩ := inf68
  exact x_loadA ag68 h1 hx hc (by rw [h3]; exact hl)
theorem lv68 {w : World} {ad : Addr} {cs : List Value} (hc : At w ad cs) (hl : cs.length = 2) : (loadVar 68 ad).run Tryd.prog w = .ok (.agg cs.toArray) w := by
  obtain ⟨i0, h1, _, h3, _⟩ := inf68
  exact run_loadVar_t ag68 h1 hc (by rw [h3]; exact hl)
theorem sto68 {N : Nat} {ρ : Nat → Value} {H : Hp} {w : World} {L : List Res} {g T ty i : Nat} {x y : Operand} {cs cs' : List Value} {v : Value} (h : St H w (obj g T cs :: L)) (hx : Ev N ρ x (.pointer (some ⟨g, i, none⟩))) (hy : Ev N ρ y v) (hsz : v.cells.size = 2) (hl : i + 2 ≤ cs.length) (h1 : ∀ u ∈ v.cells.toList, u.oneCell' = true) (hsp : splice cs i v.cells.toList = cs') : ∃ w', Ex0 Tryd.prog N ρ w (.store 68 x y) ty w' ∧ St H w' (obj g T cs' :: L) := by
  obtain ⟨i0, e1, _, e3, _⟩ := inf68
  exact m_store e1 h hx hy (by rw [e3]; exact hsz) (by rw [e3]; exact hl) h1 hsp
theorem stor68 {N : Nat} {ρ : Nat → Value} {H : Hp} {w : World} {L : List Res} {g e size n cap ty i : Nat} {x y : Operand} {xs xs' : List Value} {v u : Value} (h : St H w (row e size v n xs :: L)) (hv : v = .slice (some ⟨g, 0, none⟩) n cap) (hx : Ev N ρ x (.pointer (some ⟨g, i, none⟩))) (hy : Ev N ρ y u) (hsz : u.cells.size = 2) (hl : i + 2 ≤ xs.length) (h1 : ∀ u' ∈ u.cells.toList, u'.oneCell' = true) (hsp : splice xs i u.cells.toList = xs') : ∃ w', Ex0 Tryd.prog N ρ w (.store 68 x y) ty w' ∧ St H w' (row e size v n xs' :: L) := by
  obtain ⟨i0, e1, _, e3, _⟩ := inf68
  exact m_storeRow e1 h hv hx hy (by rw [e3]; exact hsz) (by rw [e3]; exact hl) h1 hsp
theorem al68 {N : Nat} {ρ : Nat → Value} {H : Hp} {w : World} {L : List Res} {ty : Nat} {cs : List Value} (h : St H w L) (hv : (.agg #[.int .u8 0, .slice none 0 0] : Value).cells = cs.toArray) : ∃ v' w', Ex Tryd.prog N ρ w (.alloc 68) ty v' w' ∧ ∃ g, v' = .pointer (some ⟨g, 0, none⟩) ∧ St H w' (obj g 68 cs :: L) := by
  obtain ⟨i0, e1, e2, _, _⟩ := inf68
  exact m_alloc e1 e2 h hv
theorem ag69 : aggT Tryd.prog 69 = true := by kernel_rfl
theorem ld69 {N : Nat} {ρ : Nat → Value} {w : World} {ty : Nat} {x : Operand} {ad : Addr} {cs : List Value} (hx : Ev N ρ x (.pointer (some ad))) (hc : At w ad cs) (hl : cs.length = 2) : Ex Tryd.prog N ρ w (.load 69 x) ty (.agg cs.toArray) w := by
  obtain ⟨i0, h1, _, h3, _⟩ := inf69
  exact x_loadA ag69 h1 hx hc (by rw [h3]; exact hl)
theorem lv69 {w : World} {ad : Addr} {cs : List Value} (hc : At w ad cs) (hl : cs.length = 2) : (loadVar 69 ad).run Tryd.prog w = .ok (.agg cs.toArray) w := by
  obtain ⟨i0, h1, _, h3, _⟩ := inf69
  exact run_loadVar_t ag69 h1 hc (by rw [h3]; exact hl)
theorem sto69 {N : Nat} {ρ : Nat → Value} {H : Hp} {w : World} {L : List Res} {g T ty i : Nat} {x y : Operand} {cs cs' : List Value} {v : Value} (h : St H w (obj g T cs :: L)) (hx : Ev N ρ x (.pointer (some ⟨g, i, none⟩))) (hy : Ev N ρ y v) (hsz : v.cells.size = 2) (hl : i + 2 ≤ cs.length) (h1 : ∀ u ∈ v.cells.toList, u.oneCell' = true) (hsp : splice cs i v.cells.toList = cs') : ∃ w', Ex0 Tryd.prog N ρ w (.store 69 x y) ty w' ∧ St H w' (obj g T cs' :: L) := by
  obtain ⟨i0, e1, _, e3, _⟩ := inf69
  exact m_store e1 h hx hy (by rw [e3]; exact hsz) (by rw [e3]; exact hl) h1 hsp
theorem stor69 {N : Nat} {ρ : Nat → Value} {H : Hp} {w : World} {L : List Res} {g e size n cap ty i : Nat} {x y : Operand} {xs xs' : List Value} {v u : Value} (h : St H w (row e size v n xs :: L)) (hv : v = .slice (some ⟨g, 0, none⟩) n cap) (hx : Ev N ρ x (.pointer (some ⟨g, i, none⟩))) (hy : Ev N ρ y u) (hsz : u.cells.size = 2) (hl : i + 2 ≤ xs.length) (h1 : ∀ u' ∈ u.cells.toList, u'.oneCell' = true) (hsp : splice xs i u.cells.toList = xs') : ∃ w', Ex0 Tryd.prog N ρ w (.store 69 x y) ty w' ∧ St H w' (row e size v n xs' :: L) := by
  obtain ⟨i0, e1, _, e3, _⟩ := inf69
  exact m_storeRow e1 h hv hx hy (by rw [e3]; exact hsz) (by rw [e3]; exact hl) h1 hsp
theorem al69 {N : Nat} {ρ : Nat → Value} {H : Hp} {w : World} {L : List Res} {ty : Nat} {cs : List Value} (h : St H w L) (hv : (.agg #[.int .u8 0, .slice none 0 0] : Value).cells = cs.toArray) : ∃ v' w', Ex Tryd.prog N ρ w (.alloc 69) ty v' w' ∧ ∃ g, v' = .pointer (some ⟨g, 0, none⟩) ∧ St H w' (obj g 69 cs :: L) := by
  obtain ⟨i0, e1, e2, _, _⟩ := inf69
  exact m_alloc e1 e2 h hv
theorem sc72 : scalarT Tryd.prog 72 = true := by kernel_rfl
theorem ld72 {N : Nat} {ρ : Nat → Value} {w : World} {ty : Nat} {x : Operand} {ad : Addr} {v : Value} (hx : Ev N ρ x (.pointer (some ad))) (hc : w.cell? ad = some v) : Ex Tryd.prog N ρ w (.load 72 x) ty v w := x_load sc72 hx hc
theorem sto72 {N : Nat} {ρ : Nat → Value} {H : Hp} {w : World} {L : List Res} {g T ty i : Nat} {x y : Operand} {cs cs' : List Value} {v : Value} (h : St H w (obj g T cs :: L)) (hx : Ev N ρ x (.pointer (some ⟨g, i, none⟩))) (hy : Ev N ρ y v) (hsz : v.cells.size = 1) (hl : i + 1 ≤ cs.length) (h1 : ∀ u ∈ v.cells.toList, u.oneCell' = true) (hsp : splice cs i v.cells.toList = cs') : ∃ w', Ex0 Tryd.prog N ρ w (.store 72 x y) ty w' ∧ St H w' (obj g T cs' :: L) := by
  obtain ⟨i0, e1, _, e3, _⟩ := inf72
  exact m_store e1 h hx hy (by rw [e3]; exact hsz) (by rw [e3]; exact hl) h1 hsp
theorem stor72 {N : Nat} {ρ : Nat → Value} {H : Hp} {w : World} {L : List Res} {g e size n cap ty i : Nat} {x y : Operand} {xs xs' : List Value} {v u : Value} (h : St H w (row e size v n xs :: L)) (hv : v = .slice (some ⟨g, 0, none⟩) n cap) (hx : Ev N ρ x (.pointer (some ⟨g, i, none⟩))) (hy : Ev N ρ y u) (hsz : u.cells.size = 1) (hl : i + 1 ≤ xs.length) (h1 : ∀ u' ∈ u.cells.toList, u'.oneCell' = true) (hsp : splice xs i u.cells.toList = xs') : ∃ w', Ex0 Tryd.prog N ρ w (.store 72 x y) ty w' ∧ St H w' (row e size v n xs' :: L) := by
  obtain ⟨i0, e1, _, e3, _⟩ := inf72
  exact m_storeRow e1 h hv hx hy (by rw [e3]; exact hsz) (by rw [e3]; exact hl) h1 hsp
theorem al72 {N : Nat} {ρ : Nat → Value} {H : Hp} {w : World} {L : List Res} {ty : Nat} {cs : List Value} (h : St H w L) (hv : (.pointer none : Value).cells = cs.toArray) : ∃ v' w', Ex Tryd.prog N ρ w (.alloc 72) ty v' w' ∧ ∃ g, v' = .pointer (some ⟨g, 0, none⟩) ∧ St H w' (obj g 72 cs :: L) := by
  obtain ⟨i0, e1, e2, _, _⟩ := inf72
  exact m_alloc e1 e2 h hv
theorem ag73 : aggT Tryd.prog 73 = true := by kernel_rfl
theorem ld73 {N : Nat} {ρ : Nat → Value} {w : World} {ty : Nat} {x : Operand} {ad : Addr} {cs : List Value} (hx : Ev N ρ x (.pointer (some ad))) (hc : At w ad cs) (hl : cs.length = 16) : Ex Tryd.prog N ρ w (.load 73 x) ty (.agg cs.toArray) w := by
  obtain ⟨i0, h1, _, h3, _⟩ := inf73
  exact x_loadA ag73 h1 hx hc (by rw [h3]; exact hl)
theorem lv73 {w : World} {ad : Addr} {cs : List Value} (hc : At w ad cs) (hl : cs.length = 16) : (loadVar 73 ad).run Tryd.prog w = .ok (.agg cs.toArray) w := by
  obtain ⟨i0, h1, _, h3, _⟩ := inf73
  exact run_loadVar_t ag73 h1 hc (by rw [h3]; exact hl)
theorem sto73 {N : Nat} {ρ : Nat → Value} {H : Hp} {w : World} {L : List Res} {g T ty i : Nat} {x y : Operand} {cs cs' : List Value} {v : Value} (h : St H w (obj g T cs :: L)) (hx : Ev N ρ x (.pointer (some ⟨g, i, none⟩))) (hy : Ev N ρ y v) (hsz : v.cells.size = 16) (hl : i + 16 ≤ cs.length) (h1 : ∀ u ∈ v.cells.toList, u.oneCell' = true) (hsp : splice cs i v.cells.toList = cs') : ∃ w', Ex0 Tryd.prog N ρ w (.store 73 x y) ty w' ∧ St H w' (obj g T cs' :: L) := by
  obtain ⟨i0, e1, _, e3, _⟩ := inf73
  exact m_store e1 h hx hy (by rw [e3]; exact hsz) (by rw [e3]; exact hl) h1 hsp
theorem stor73 {N : Nat} {ρ : Nat → Value} {H : Hp} {w : World} {L : List Res} {g e size n cap ty i : Nat} {x y : Operand} {xs xs' : List Value} {v u : Value} (h : St H w (row e size v n xs :: L)) (hv : v = .slice (some ⟨g, 0, none⟩) n cap) (hx : Ev N ρ x (.pointer (some ⟨g, i, none⟩))) (hy : Ev N ρ y u) (hsz : u.cells.size = 16) (hl : i + 16 ≤ xs.length) (h1 : ∀ u' ∈ u.cells.toList, u'.oneCell' = true) (hsp : splice xs i u.cells.toList = xs') : ∃ w', Ex0 Tryd.prog N ρ w (.store 73 x y) ty w' ∧ St H w' (row e size v n xs' :: L) := by
  obtain ⟨i0, e1, _, e3, _⟩ := inf73
  exact m_storeRow e1 h hv hx hy (by rw [e3]; exact hsz) (by rw [e3]; exact hl) h1 hsp
theorem al73 {N : Nat} {ρ : Nat → Value} {H : Hp} {w : World} {L : List Res} {ty : Nat} {cs : List Value} (h : St H w L) (hv : (.agg #[.int .i64 0, .int .i64 0, .int .i64 0, .int .i64 0, .int .i64 0, .int .i64 0, .int .i64 0, .int .i64 0, .int .i64 0, .int .i64 0, .int .i64 0, .int .i64 0, .int .i64 0, .int .i64 0, .int .i64 0, .int .i64 0] : Value).cells = cs.toArray) : ∃ v' w', Ex Tryd.prog N ρ w (.alloc 73) ty v' w' ∧ ∃ g, v' = .pointer (some ⟨g, 0, none⟩) ∧ St H w' (obj g 73 cs :: L) := by
  obtain ⟨i0, e1, e2, _, _⟩ := inf73
  exact m_alloc e1 e2 h hv
theorem sc79 : scalarT Tryd.prog 79 = true := by kernel_rfl
theorem ld79 {N : Nat} {ρ : Nat → Value} {w : World} {ty : Nat} {x : Operand} {ad : Addr} {v : Value} (hx : Ev N ρ x (.pointer (some ad))) (hc : w.cell? ad = some v) : Ex Tryd.prog N ρ w (.load 79 x) ty v w := x_load sc79 hx hc
theorem sto79 {N : Nat} {ρ : Nat → Value} {H : Hp} {w : World} {L : List Res} {g T ty i : Nat} {x y : Operand} {cs cs' : List Value} {v : Value} (h : St H w (obj g T cs :: L)) (hx : Ev N ρ x (.pointer (some ⟨g, i, none⟩))) (hy : Ev N ρ y v) (hsz : v.cells.size = 1) (hl : i + 1 ≤ cs.length) (h1 : ∀ u ∈ v.cells.toList, u.oneCell' = true) (hsp : splice cs i v.cells.toList = cs') : ∃ w', Ex0 Tryd.prog N ρ w (.store 79 x y) ty w' ∧ St H w' (obj g T cs' :: L) := by
  obtain ⟨i0, e1, _, e3, _⟩ := inf79
  exact m_store e1 h hx hy (by rw [e3]; exact hsz) (by rw [e3]; exact hl) h1 hsp
theorem stor79 {N : Nat} {ρ : Nat → Value} {H : Hp} {w : World} {L : List Res} {g e size n cap ty i : Nat} {x y : Operand} {xs xs' : List Value} {v u : Value} (h : St H w (row e size v n xs :: L)) (hv : v = .slice (some ⟨g, 0, none⟩) n cap) (hx : Ev N ρ x (.pointer (some ⟨g, i, none⟩))) (hy : Ev N ρ y u) (hsz : u.cells.size = 1) (hl : i + 1 ≤ xs.length) (h1 : ∀ u' ∈ u.cells.toList, u'.oneCell' = true) (hsp : splice xs i u.cells.toList = xs') : ∃ w', Ex0 Tryd.prog N ρ w (.store 79 x y) ty w' ∧ St H w' (row e size v n xs' :: L) := by
  obtain ⟨i0, e1, _, e3, _⟩ := inf79
  exact m_storeRow e1 h hv hx hy (by rw [e3]; exact hsz) (by rw [e3]; exact hl) h1 hsp
theorem al79 {N : Nat} {ρ : Nat → Value} {H : Hp} {w : World} {L : List Res} {ty : Nat} {cs : List Value} (h : St H w L) (hv : (.slice none 0 0 : Value).cells = cs.toArray) : ∃ v' w', Ex Tryd.prog N ρ w (.alloc 79) ty v' w' ∧ ∃ g, v' = .pointer (some ⟨g, 0, none⟩) ∧ St H w' (obj g 79 cs :: L) := by
  obtain ⟨i0, e1, e2, _, _⟩ := inf79
  exact m_alloc e1 e2 h hv
theorem ag94 : aggT Tryd.prog 94 = true := by kernel_rfl
theorem ld94 {N : Nat} {ρ : Nat → Value} {w : World} {ty : Nat} {x : Operand} {ad : Addr} {cs : List Value} (hx : Ev N ρ x (.pointer (some ad))) (hc : At w ad cs) (hl : cs.length = 32) : Ex Tryd.prog N ρ w (.load 94 x) ty (.agg cs.toArray) w := by
  obtain ⟨i0, h1, _, h3, _⟩ := inf94
  exact x_loadA ag94 h1 hx hc (by rw [h3]; exact hl)
theorem lv94 {w : World} {ad : Addr} {cs : List Value} (hc : At w ad cs) (hl : cs.length = 32) : (loadVar 94 ad).run Tryd.prog w = .ok (.agg cs.toArray) w := by
  obtain ⟨i0, h1, _, h3, _⟩ := inf94
  exact run_loadVar_t ag94 h1 hc (by rw [h3]; exact hl)
theorem sto94 {N : Nat} {ρ : Nat → Value} {H : Hp} {w : World} {L : List Res} {g T ty i : Nat} {x y : Operand} {cs cs' : List Value} {v : Value} (h : St H w (obj g T cs :: L)) (hx : Ev N ρ x (.pointer (some ⟨g, i, none⟩))) (hy : Ev N ρ y v) (hsz : v.cells.size = 32) (hl : i + 32 ≤ cs.length) (h1 : ∀ u ∈ v.cells.toList, u.oneCell' = true) (hsp : splice cs i v.cells.toList = cs') : ∃ w', Ex0 Tryd.prog N ρ w (.store 94 x y) ty w' ∧ St H w' (obj g T cs' :: L) := by
  obtain ⟨i0, e1, _, e3, _⟩ := inf94
  exact m_store e1 h hx hy (by rw [e3]; exact hsz) (by rw [e3]; exact hl) h1 hsp
theorem stor94 {N : Nat} {ρ : Nat → Value} {H : Hp} {w : World} {L : List Res} {g e size n cap ty i : Nat} {x y : Operand} {xs xs' : List Value} {v u : Value} (h : St H w (row e size v n xs :: L)) (hv : v = .slice (some ⟨g, 0, none⟩) n cap) (hx : Ev N ρ x (.pointer (some ⟨g, i, none⟩))) (hy : Ev N ρ y u) (hsz : u.cells.size = 32) (hl : i + 32 ≤ xs.length) (h1 : ∀ u' ∈ u.cells.toList, u'.oneCell' = true) (hsp : splice xs i u.cells.toList = xs') : ∃ w', Ex0 Tryd.prog N ρ w (.store 94 x y) ty w' ∧ St H w' (row e size v n xs' :: L) := by
  obtain ⟨i0, e1, _, e3, _⟩ := inf94
  exact m_storeRow e1 h hv hx hy (by rw [e3]; exact hsz) (by rw [e3]; exact hl) h1 hsp
theorem al94 {N : Nat} {ρ : Nat → Value} {H : Hp} {w : World} {L : List Res} {ty : Nat} {cs : List Value} (h : St H w L) (hv : (.agg #[.int .u8 0, .int .u8 0, .int .u8 0, .int .u8 0, .int .u8 0, .int .u8 0, .int .u8 0, .int .u8 0, .int .u8 0, .int .u8 0, .int .u8 0, .int .u8 0, .int .u8 0, .int .u8 0, .int .u8 0, .int .u8 0, .int .u8 0, .int .u8 0, .int .u8 0, .int .u8 0, .int .u8 0, .int .u8 0, .int .u8 0, .int .u8 0, .int .u8 0, .int .u8 0, .int .u8 0, .int .u8 0, .int .u8 0, .int .u8 0, .int .u8 0, .int .u8 0] : Value).cells = cs.toArray) : ∃ v' w', Ex Tryd.prog N ρ w (.alloc 94) ty v' w' ∧ ∃ g, v' = .pointer (some ⟨g, 0, none⟩) ∧ St H w' (obj g 94 cs :: L) := by
  obtain ⟨i0, e1, e2, _, _⟩ := inf94
  exact m_alloc e1 e2 h hv
theorem sc95 : scalarT Tryd.prog 95 = true := by kernel_rfl
theorem ld95 {N : Nat} {ρ : Nat → Value} {w : World} {ty : Nat} {x : Operand} {ad : Addr} {v : Value} (hx : Ev N ρ x (.pointer (some ad))) (hc : w.cell? ad = some v) : Ex Tryd.prog N ρ w (.load 95 x) ty v w := x_load sc95 hx hc
theorem sto95 {N : Nat} {ρ : Nat → Value} {H : Hp} {w : World} {L : List Res} {g T ty i : Nat} {x y : Operand} {cs cs' : List Value} {v : Value} (h : St H w (obj g T cs :: L)) (hx : Ev N ρ x (.pointer (some ⟨g, i, none⟩))) (hy : Ev N ρ y v) (hsz : v.cells.size = 1) (hl : i + 1 ≤ cs.length) (h1 : ∀ u ∈ v.cells.toList, u.oneCell' = true) (hsp : splice cs i v.cells.toList = cs') : ∃ w', Ex0 Tryd.prog N ρ w (.store 95 x y) ty w' ∧ St H w' (obj g T cs' :: L) := by
  obtain ⟨i0, e1, _, e3, _⟩ := inf95
  exact m_store e1 h hx hy (by rw [e3]; exact hsz) (by rw [e3]; exact hl) h1 hsp
theorem stor95 {N : Nat} {ρ : Nat → Value} {H : Hp} {w : World} {L : List Res} {g e size n cap ty i : Nat} {x y : Operand} {xs xs' : List Value} {v u : Value} (h : St H w (row e size v n xs :: L)) (hv : v = .slice (some ⟨g, 0, none⟩) n cap) (hx : Ev N ρ x (.pointer (some ⟨g, i, none⟩))) (hy : Ev N ρ y u) (hsz : u.cells.size = 1) (hl : i + 1 ≤ xs.length) (h1 : ∀ u' ∈ u.cells.toList, u'.oneCell' = true) (hsp : splice xs i u.cells.toList = xs') : ∃ w', Ex0 Tryd.prog N ρ w (.store 95 x y) ty w' ∧ St H w' (row e size v n xs' :: L) := by
  obtain ⟨i0, e1, _, e3, _⟩ := inf95
  exact m_storeRow e1 h hv hx hy (by rw [e3]; exact hsz) (by rw [e3]; exact hl) h1 hsp
theorem al95 {N : Nat} {ρ : Nat → Value} {H : Hp} {w : World} {L : List Res} {ty : Nat} {cs : List Value} (h : St H w L) (hv : (.int .u32 0 : Value).cells = cs.toArray) : ∃ v' w', Ex Tryd.prog N ρ w (.alloc 95) ty v' w' ∧ ∃ g, v' = .pointer (some ⟨g, 0, none⟩) ∧ St H w' (obj g 95 cs :: L) := by
  obtain ⟨i0, e1, e2, _, _⟩ := inf95
  exact m_alloc e1 e2 h hv
theorem sc96 : scalarT Tryd.prog 96 = true := by kernel_rfl
theorem ld96 {N : Nat} {ρ : Nat → Value} {w : World} {ty : Nat} {x : Operand} {ad : Addr} {v : Value} (hx : Ev N ρ x (.pointer (some ad))) (hc : w.cell? ad = some v) : Ex Tryd.prog N ρ w (.load 96 x) ty v w := x_load sc96 hx hc
theorem sto96 {N : Nat} {ρ : Nat → Value} {H : Hp} {w : World} {L : List Res} {g T ty i : Nat} {x y : Operand} {cs cs' : List Value} {v : Value} (h : St H w (obj g T cs :: L)) (hx : Ev N ρ x (.pointer (some ⟨g, i, none⟩))) (hy : Ev N ρ y v) (hsz : v.cells.size = 1) (hl : i + 1 ≤ cs.length) (h1 : ∀ u ∈ v.cells.toList, u.oneCell' = true) (hsp : splice cs i v.cells.toList = cs') : ∃ w', Ex0 Tryd.prog N ρ w (.store 96 x y) ty w' ∧ St H w' (obj g T cs' :: L) := by
  obtain ⟨i0, e1, _, e3, _⟩ := inf96
  exact m_store e1 h hx hy (by rw [e3]; exact hsz) (by rw [e3]; exact hl) h1 hsp
theorem stor96 {N : Nat} {ρ : Nat → Value} {H : Hp} {w : World} {L : List Res} {g e size n cap ty i : Nat} {x y : Operand} {xs xs' : List Value} {v u : Value} (h : St H w (row e size v n xs :: L)) (hv : v = .slice (some ⟨g, 0, none⟩) n cap) (hx : Ev N ρ x (.pointer (some ⟨g, i, none⟩))) (hy : Ev N ρ y u) (hsz : u.cells.size = 1) (hl : i + 1 ≤ xs.length) (h1 : ∀ u' ∈ u.cells.toList, u'.oneCell' = true) (hsp : splice xs i u.cells.toList = xs') : ∃ w', Ex0 Tryd.prog N ρ w (.store 96 x y) ty w' ∧ St H w' (row e size v n xs' :: L) := by
  obtain ⟨i0, e1, _, e3, _⟩ := inf96
  exact m_storeRow e1 h hv hx hy (by rw [e3]; exact hsz) (by rw [e3]; exact hl) h1 hsp
theorem al96 {N : Nat} {ρ : Nat → Value} {H : Hp} {w : World} {L : List Res} {ty : Nat} {cs : List Value} (h : St H w L) (hv : (.int .u64 0 : Value).cells = cs.toArray) : ∃ v' w', Ex Tryd.prog N ρ w (.alloc 96) ty v' w' ∧ ∃ g, v' = .pointer (some ⟨g, 0, none⟩) ∧ St H w' (obj g 96 cs :: L) := by
  obtain ⟨i0, e1, e2, _, _⟩ := inf96
  exact m_alloc e1 e2 h hv
theorem ag98 : aggT Tryd.prog 98 = true := by kernel_rfl
theorem ld98 {N : Nat} {ρ : Nat → Value} {w : World} {ty : Nat} {x : Operand} {ad : Addr} {cs : List Value} (hx : Ev N ρ x (.pointer (some ad))) (hc : At w ad cs) (hl : cs.length = 4) : Ex Tryd.prog N ρ w (.load 98 x) ty (.agg cs.toArray) w := by
  obtain ⟨i0, h1, _, h3, _⟩ := inf98
  exact x_loadA ag98 h1 hx hc (by rw [h3]; exact hl)
theorem lv98 {w : World} {ad : Addr} {cs : List Value} (hc : At w ad cs) (hl : cs.length = 4) : (loadVar 98 ad).run Tryd.prog w = .ok (.agg cs.toArray) w := by
  obtain ⟨i0, h1, _, h3, _⟩ := inf98
  exact run_loadVar_t ag98 h1 hc (by rw [h3]; exact hl)
theorem sto98 {N : Nat} {ρ : Nat → Value} {H : Hp} {w : World} {L : List Res} {g T ty i : Nat} {x y : Operand} {cs cs' : List Value} {v : Value} (h : St H w (obj g T cs :: L)) (hx : Ev N ρ x (.pointer (some ⟨g, i, none⟩))) (hy : Ev N ρ y v) (hsz : v.cells.size = 4) (hl : i + 4 ≤ cs.length) (h1 : ∀ u ∈ v.cells.toList, u.oneCell' = true) (hsp : splice cs i v.cells.toList = cs') : ∃ w', Ex0 Tryd.prog N ρ w (.store 98 x y) ty w' ∧ St H w' (obj g T cs' :: L) := by
  obtain ⟨i0, e1, _, e3, _⟩ := inf98
  exact m_store e1 h hx hy (by rw [e3]; exact hsz) (by rw [e3]; exact hl) h1 hsp
theorem stor98 {N : Nat} {ρ : Nat → Value} {H : Hp} {w : World} {L : List Res} {g e size n cap ty i : Nat} {x y : Operand} {xs xs' : List Value} {v u : Value} (h : St H w (row e size v n xs :: L)) (hv : v = .slice (some ⟨g, 0, none⟩) n cap) (hx : Ev N ρ x (.pointer (some ⟨g, i, none⟩))) (hy : Ev N ρ y u) (hsz : u.cells.size = 4) (hl : i + 4 ≤ xs.length) (h1 : ∀ u' ∈ u.cells.toList, u'.oneCell' = true) (hsp : splice xs i u.cells.toList = xs') : ∃ w', Ex0 Tryd.prog N ρ w (.store 98 x y) ty w' ∧ St H w' (row e size v n xs' :: L) := by
  obtain ⟨i0, e1, _, e3, _⟩ := inf98
  exact m_storeRow e1 h hv hx hy (by rw [e3]; exact hsz) (by rw [e3]; exact hl) h1 hsp
theorem al98 {N : Nat} {ρ : Nat → Value} {H : Hp} {w : World} {L : List Res} {ty : Nat} {cs : List Value} (h : St H w L) (hv : (.agg #[.pointer none, .pointer none, .pointer none, .string ⟨#[]⟩] : Value).cells = cs.toArray) : ∃ v' w', Ex Tryd.prog N ρ w (.alloc 98) ty v' w' ∧ ∃ g, v' = .pointer (some ⟨g, 0, none⟩) ∧ St H w' (obj g 98 cs :: L) := by
  obtain ⟨i0, e1, e2, _, _⟩ := inf98
  exact m_alloc e1 e2 h hv
theorem ag99 : aggT Tryd.prog 99 = true := by kernel_rfl
theorem ld99 {N : Nat} {ρ : Nat → Value} {w : World} {ty : Nat} {x : Operand} {ad : Addr} {cs : List Value} (hx : Ev N ρ x (.pointer (some ad))) (hc : At w ad cs) (hl : cs.length = 4) : Ex Tryd.prog N ρ w (.load 99 x) ty (.agg cs.toArray) w := by
  obtain ⟨i0, h1, _, h3, _⟩ := inf99
  exact x_loadA ag99 h1 hx hc (by rw [h3]; exact hl)
theorem lv99 {w : World} {ad : Addr} {cs : List Value} (hc : At w ad cs) (hl : cs.length = 4) : (loadVar 99 ad).run Tryd.prog w = .ok (.agg cs.toArray) w := by
  obtain ⟨i0, h1, _, h3, _⟩ := inf99
  exact run_loadVar_t ag99 h1 hc (by rw [h3]; exact hl)
theorem sto99 {N : Nat} {ρ : Nat → Value} {H : Hp} {w : World} {L : List Res} {g T ty i : Nat} {x y : Operand} {cs cs' : List Value} {v : Value} (h : St H w (obj g T cs :: L)) (hx : Ev N ρ x (.pointer (some ⟨g, i, none⟩))) (hy : Ev N ρ y v) (hsz : v.cells.size = 4) (hl : i + 4 ≤ cs.length) (h1 : ∀ u ∈ v.cells.toList, u.oneCell' = true) (hsp : splice cs i v.cells.toList = cs') : ∃ w', Ex0 Tryd.prog N ρ w (.store 99 x y) ty w' ∧ St H w' (obj g T cs' :: L) := by
  obtain ⟨i0, e1, _, e3, _⟩ := inf99
  exact m_store e1 h hx hy (by rw [e3]; exact hsz) (by rw [e3]; exact hl) h1 hsp
theorem stor99 {N : Nat} {ρ : Nat → Value} {H : Hp} {w : World} {L : List Res} {g e size n cap ty i : Nat} {x y : Operand} {xs xs' : List Value} {v u : Value} (h : St H w (row e size v n xs :: L)) (hv : v = .slice (some ⟨g, 0, none⟩) n cap) (hx : Ev N ρ x (.pointer (some ⟨g, i, none⟩))) (hy : Ev N ρ y u) (hsz : u.cells.size = 4) (hl : i + 4 ≤ xs.length) (h1 : ∀ u' ∈ u.cells.toList, u'.oneCell' = true) (hsp : splice xs i u.cells.toList = xs') : ∃ w', Ex0 Tryd.prog N ρ w (.store 99 x y) ty w' ∧ St H w' (row e size v n xs' :: L) := by
  obtain ⟨i0, e1, _, e3, _⟩ := inf99
  exact m_storeRow e1 h hv hx hy (by rw [e3]; exact hsz) (by rw [e3]; exact hl) h1 hsp
theorem al99 {N : Nat} {ρ : Nat → Value} {H : Hp} {w : World} {L : List Res} {ty : Nat} {cs : List Value} (h : St H w L) (hv : (.agg #[.pointer none, .pointer none, .pointer none, .string ⟨#[]⟩] : Value).cells = cs.toArray) : ∃ v' w', Ex Tryd.prog N ρ w (.alloc 99) ty v' w' ∧ ∃ g, v' = .pointer (some ⟨g, 0, none⟩) ∧ St H w' (obj g 99 cs :: L) := by
  obtain ⟨i0, e1, e2, _, _⟩ := inf99
  exact m_alloc e1 e2 h hv
theorem ag100 : aggT Tryd.prog 100 = true := by kernel_rfl
theorem ld100 {N : Nat} {ρ : Nat → Value} {w : World} {ty : Nat} {x : Operand} {ad : Addr} {cs : List Value} (hx : Ev N ρ x (.pointer (some ad))) (hc : At w ad cs) (hl : cs.length = 0) : Ex Tryd.prog N ρ w (.load 100 x) ty (.agg cs.toArray) w := by
  obtain ⟨i0, h1, _, h3, _⟩ := inf100
  exact x_loadA ag100 h1 hx hc (by rw [h3]; exact hl)
theorem lv100 {w : World} {ad : Addr} {cs : List Value} (hc : At w ad cs) (hl : cs.length = 0) : (loadVar 100 ad).run Tryd.prog w = .ok (.agg cs.toArray) w := by
  obtain ⟨i0, h1, _, h3, _⟩ := inf100
  exact run_loadVar_t ag100 h1 hc (by rw [h3]; exact hl)
theorem sto100 {N : Nat} {ρ : Nat → Value} {H : Hp} {w : World} {L : List Res} {g T ty i : Nat} {x y : Operand} {cs cs' : List Value} {v : Value} (h : St H w (obj g T cs :: L)) (hx : Ev N ρ x (.pointer (some ⟨g, i, none⟩))) (hy : Ev N ρ y v) (hsz : v.cells.size = 0) (hl : i + 0 ≤ cs.length) (h1 : ∀ u ∈ v.cells.toList, u.oneCell' = true) (hsp : splice cs i v.cells.toList = cs') : ∃ w', Ex0 Tryd.prog N ρ w (.store 100 x y) ty w' ∧ St H w' (obj g T cs' :: L) := by
  obtain ⟨i0, e1, _, e3, _⟩ := inf100
  exact m_store e1 h hx hy (by rw [e3]; exact hsz) (by rw [e3]; exact hl) h1 hsp
theorem stor100 {N : Nat} {ρ : Nat → Value} {H : Hp} {w : World} {L : List Res} {g e size n cap ty i : Nat} {x y : Operand} {xs xs' : List Value} {v u : Value} (h : St H w (row e size v n xs :: L)) (hv : v = .slice (some ⟨g, 0, none⟩) n cap) (hx : Ev N ρ x (.pointer (some ⟨g, i, none⟩))) (hy : Ev N ρ y u) (hsz : u.cells.size = 0) (hl : i + 0 ≤ xs.length) (h1 : ∀ u' ∈ u.cells.toList, u'.oneCell' = true) (hsp : splice xs i u.cells.toList = xs') : ∃ w', Ex0 Tryd.prog N ρ w (.store 100 x y) ty w' ∧ St H w' (row e size v n xs' :: L) := by
  obtain ⟨i0, e1, _, e3, _⟩ := inf100
  exact m_storeRow e1 h hv hx hy (by rw [e3]; exact hsz) (by rw [e3]; exact hl) h1 hsp
theorem al100 {N : Nat} {ρ : Nat → Value} {H : Hp} {w : World} {L : List Res} {ty : Nat} {cs : List Value} (h : St H w L) (hv : (.agg #[] : Value).cells = cs.toArray) : ∃ v' w', Ex Tryd.prog N ρ w (.alloc 100) ty v' w' ∧ ∃ g, v' = .pointer (some ⟨g, 0, none⟩) ∧ St H w' (obj g 100 cs :: L) := by
  obtain ⟨i0, e1, e2, _, _⟩ := inf100
  exact m_alloc e1 e2 h hv
theorem sc104 : scalarT Tryd.prog 104 = true := by kernel_rfl
theorem ld104 {N : Nat} {ρ : Nat → Value} {w : World} {ty : Nat} {x : Operand} {ad : Addr} {v : Value} (hx : Ev N ρ x (.pointer (some ad))) (hc : w.cell? ad = some v) : Ex Tryd.prog N ρ w (.load 104 x) ty v w := x_load sc104 hx hc
theorem sto104 {N : Nat} {ρ : Nat → Value} {H : Hp} {w : World} {L : List Res} {g T ty i : Nat} {x y : Operand} {cs cs' : List Value} {v : Value} (h : St H w (obj g T cs :: L)) (hx : Ev N ρ x (.pointer (some ⟨g, i, none⟩))) (hy : Ev N ρ y v) (hsz : v.cells.size = 1) (hl : i + 1 ≤ cs.length) (h1 : ∀ u ∈ v.cells.toList, u.oneCell' = true) (hsp : splice cs i v.cells.toList = cs') : ∃ w', Ex0 Tryd.prog N ρ w (.store 104 x y) ty w' ∧ St H w' (obj g T cs' :: L) := by
  obtain ⟨i0, e1, _, e3, _⟩ := inf104
  exact m_store e1 h hx hy (by rw [e3]; exact hsz) (by rw [e3]; exact hl) h1 hsp
theorem stor104 {N : Nat} {ρ : Nat → Value} {H : Hp} {w : World} {L : List Res} {g e size n cap ty i : Nat} {x y : Operand} {xs xs' : List Value} {v u : Value} (h : St H w (row e size v n xs :: L)) (hv : v = .slice (some ⟨g, 0, none⟩) n cap) (hx : Ev N ρ x (.pointer (some ⟨g, i, none⟩))) (hy : Ev N ρ y u) (hsz : u.cells.size = 1) (hl : i + 1 ≤ xs.length) (h1 : ∀ u' ∈ u.cells.toList, u'.oneCell' = true) (hsp : splice xs i u.cells.toList = xs') : ∃ w', Ex0 Tryd.prog N ρ w (.store 104 x y) ty w' ∧ St H w' (row e size v n xs' :: L) := by
  obtain ⟨i0, e1, _, e3, _⟩ := inf104
  exact m_storeRow e1 h hv hx hy (by rw [e3]; exact hsz) (by rw [e3]; exact hl) h1 hsp
theorem al104 {N : Nat} {ρ : Nat → Value} {H : Hp} {w : World} {L : List Res} {ty : Nat} {cs : List Value} (h : St H w L) (hv : (.int .u8 0 : Value).cells = cs.toArray) : ∃ v' w', Ex Tryd.prog N ρ w (.alloc 104) ty v' w' ∧ ∃ g, v' = .pointer (some ⟨g, 0, none⟩) ∧ St H w' (obj g 104 cs :: L) := by
  obtain ⟨i0, e1, e2, _, _⟩ := inf104
  exact m_alloc e1 e2 h hv
theorem sc105 : scalarT Tryd.prog 105 = true := by kernel_rfl
theorem ld105 {N : Nat} {ρ : Nat → Value} {w : World} {ty : Nat} {x : Operand} {ad : Addr} {v : Value} (hx : Ev N ρ x (.pointer (some ad))) (hc : w.cell? ad = some v) : Ex Tryd.prog N ρ w (.load 105 x) ty v w := x_load sc105 hx hc
theorem sto105 {N : Nat} {ρ : Nat → Value} {H : Hp} {w : World} {L : List Res} {g T ty i : Nat} {x y : Operand} {cs cs' : List Value} {v : Value} (h : St H w (obj g T cs :: L)) (hx : Ev N ρ x (.pointer (some ⟨g, i, none⟩))) (hy : Ev N ρ y v) (hsz : v.cells.size = 1) (hl : i + 1 ≤ cs.length) (h1 : ∀ u ∈ v.cells.toList, u.oneCell' = true) (hsp : splice cs i v.cells.toList = cs') : ∃ w', Ex0 Tryd.prog N ρ w (.store 105 x y) ty w' ∧ St H w' (obj g T cs' :: L) := by
  obtain ⟨i0, e1, _, e3, _⟩ := inf105
  exact m_store e1 h hx hy (by rw [e3]; exact hsz) (by rw [e3]; exact hl) h1 hsp
theorem stor105 {N : Nat} {ρ : Nat → Value} {H : Hp} {w : World} {L : List Res} {g e size n cap ty i : Nat} {x y : Operand} {xs xs' : List Value} {v u : Value} (h : St H w (row e size v n xs :: L)) (hv : v = .slice (some ⟨g, 0, none⟩) n cap) (hx : Ev N ρ x (.pointer (some ⟨g, i, none⟩))) (hy : Ev N ρ y u) (hsz : u.cells.size = 1) (hl : i + 1 ≤ xs.length) (h1 : ∀ u' ∈ u.cells.toList, u'.oneCell' = true) (hsp : splice xs i u.cells.toList = xs') : ∃ w', Ex0 Tryd.prog N ρ w (.store 105 x y) ty w' ∧ St H w' (row e size v n xs' :: L) := by
  obtain ⟨i0, e1, _, e3, _⟩ := inf105
  exact m_storeRow e1 h hv hx hy (by rw [e3]; exact hsz) (by rw [e3]; exact hl) h1 hsp
theorem al105 {N : Nat} {ρ : Nat → Value} {H : Hp} {w : World} {L : List Res} {ty : Nat} {cs : List Value} (h : St H w L) (hv : (.int .u8 0 : Value).cells = cs.toArray) : ∃ v' w', Ex Tryd.prog N ρ w (.alloc 105) ty v' w' ∧ ∃ g, v' = .pointer (some ⟨g, 0, none⟩) ∧ St H w' (obj g 105 cs :: L) := by
  obtain ⟨i0, e1, e2, _, _⟩ := inf105
  exact m_alloc e1 e2 h hv
theorem sc107 : scalarT Tryd.prog 107 = true := by kernel_rfl
theorem ld107 {N : Nat} {ρ : Nat → Value} {w : World} {ty : Nat} {x : Operand} {ad : Addr} {v : Value} (hx : Ev N ρ x (.pointer (some ad))) (hc : w.cell? ad = some v) : Ex Tryd.prog N ρ w (.load 107 x) ty v w := x_load sc107 hx hc
theorem sto107 {N : Nat} {ρ : Nat → Value} {H : Hp} {w : World} {L : List Res} {g T ty i : Nat} {x y : Operand} {cs cs' : List Value} {v : Value} (h : St H w (obj g T cs :: L)) (hx : Ev N ρ x (.pointer (some ⟨g, i, none⟩))) (hy : Ev N ρ y v) (hsz : v.cells.size = 1) (hl : i + 1 ≤ cs.length) (h1 : ∀ u ∈ v.cells.toList, u.oneCell' = true) (hsp : splice cs i v.cells.toList = cs') : ∃ w', Ex0 Tryd.prog N ρ w (.store 107 x y) ty w' ∧ St H w' (obj g T cs' :: L) := by
  obtain ⟨i0, e1, _, e3, _⟩ := inf107
  exact m_store e1 h hx hy (by rw [e3]; exact hsz) (by rw [e3]; exact hl) h1 hsp
theorem stor107 {N : Nat} {ρ : Nat → Value} {H : Hp} {w : World} {L : List Res} {g e size n cap ty i : Nat} {x y : Operand} {xs xs' : List Value} {v u : Value} (h : St H w (row e size v n xs :: L)) (hv : v = .slice (some ⟨g, 0, none⟩) n cap) (hx : Ev N ρ x (.pointer (some ⟨g, i, none⟩))) (hy : Ev N ρ y u) (hsz : u.cells.size = 1) (hl : i + 1 ≤ xs.length) (h1 : ∀ u' ∈ u.cells.toList, u'.oneCell' = true) (hsp : splice xs i u.cells.toList = xs') : ∃ w', Ex0 Tryd.prog N ρ w (.store 107 x y) ty w' ∧ St H w' (row e size v n xs' :: L) := by
  obtain ⟨i0, e1, _, e3, _⟩ := inf107
  exact m_storeRow e1 h hv hx hy (by rw [e3]; exact hsz) (by rw [e3]; exact hl) h1 hsp
theorem al107 {N : Nat} {ρ : Nat → Value} {H : Hp} {w : World} {L : List Res} {ty : Nat} {cs : List Value} (h : St H w L) (hv : (.pointer none : Value).cells = cs.toArray) : ∃ v' w', Ex Tryd.prog N ρ w (.alloc 107) ty v' w' ∧ ∃ g, v' = .pointer (some ⟨g, 0, none⟩) ∧ St H w' (obj g 107 cs :: L) := by
  obtain ⟨i0, e1, e2, _, _⟩ := inf107
  exact m_alloc e1 e2 h hv
theorem sc108 : scalarT Tryd.prog 108 = true := by kernel_rfl
theorem ld108 {N : Nat} {ρ : Nat → Value} {w : World} {ty : Nat} {x : Operand} {ad : Addr} {v : Value} (hx : Ev N ρ x (.pointer (some ad))) (hc : w.cell? ad = some v) : Ex Tryd.prog N ρ w (.load 108 x) ty v w := x_load sc108 hx hc
theorem sto108 {N : Nat} {ρ : Nat → Value} {H : Hp} {w : World} {L : List Res} {g T ty i : Nat} {x y : Operand} {cs cs' : List Value} {v : Value} (h : St H w (obj g T cs :: L)) (hx : Ev N ρ x (.pointer (some ⟨g, i, none⟩))) (hy : Ev N ρ y v) (hsz : v.cells.size = 1) (hl : i + 1 ≤ cs.length) (h1 : ∀ u ∈ v.cells.toList, u.oneCell' = true) (hsp : splice cs i v.cells.toList = cs') : ∃ w', Ex0 Tryd.prog N ρ w (.store 108 x y) ty w' ∧ St H w' (obj g T cs' :: L) := by
  obtain ⟨i0, e1, _, e3, _⟩ := inf108
  exact m_store e1 h hx hy (by rw [e3]; exact hsz) (by rw [e3]; exact hl) h1 hsp
theorem stor108 {N : Nat} {ρ : Nat → Value} {H : Hp} {w : World} {L : List Res} {g e size n cap ty i : Nat} {x y : Operand} {xs xs' : List Value} {v u : Value} (h : St H w (row e size v n xs :: L)) (hv : v = .slice (some ⟨g, 0, none⟩) n cap) (hx : Ev N ρ x (.pointer (some ⟨g, i, none⟩))) (hy : Ev N ρ y u) (hsz : u.cells.size = 1) (hl : i + 1 ≤ xs.length) (h1 : ∀ u' ∈ u.cells.toList, u'.oneCell' = true) (hsp : splice xs i u.cells.toList = xs') : ∃ w', Ex0 Tryd.prog N ρ w (.store 108 x y) ty w' ∧ St H w' (row e size v n xs' :: L) := by
  obtain ⟨i0, e1, _, e3, _⟩ := inf108
  exact m_storeRow e1 h hv hx hy (by rw [e3]; exact hsz) (by rw [e3]; exact hl) h1 hsp
theorem al108 {N : Nat} {ρ : Nat → Value} {H : Hp} {w : World} {L : List Res} {ty : Nat} {cs : List Value} (h : St H w L) (hv : (.int .i32 0 : Value).cells = cs.toArray) : ∃ v' w', Ex Tryd.prog N ρ w (.alloc 108) ty v' w' ∧ ∃ g, v' = .pointer (some ⟨g, 0, none⟩) ∧ St H w' (obj g 108 cs :: L) := by
  obtain ⟨i0, e1, e2, _, _⟩ := inf108
  exact m_alloc e1 e2 h hv
theorem sc109 : scalarT Tryd.prog 109 = true := by kernel_rfl
theorem ld109 {N : Nat} {ρ : Nat → Value} {w : World} {ty : Nat} {x : Operand} {ad : Addr} {v : Value} (hx : Ev N ρ x (.pointer (some ad))) (hc : w.cell? ad = some v) : Ex Tryd.prog N ρ w (.load 109 x) ty v w := x_load sc109 hx hc
theorem sto109 {N : Nat} {ρ : Nat → Value} {H : Hp} {w : World} {L : List Res} {g T ty i : Nat} {x y : Operand} {cs cs' : List Value} {v : Value} (h : St H w (obj g T cs :: L)) (hx : Ev N ρ x (.pointer (some ⟨g, i, none⟩))) (hy : Ev N ρ y v) (hsz : v.cells.size = 1) (hl : i + 1 ≤ cs.length) (h1 : ∀ u ∈ v.cells.toList, u.oneCell' = true) (hsp : splice cs i v.cells.toList = cs') : ∃ w', Ex0 Tryd.prog N ρ w (.store 109 x y) ty w' ∧ St H w' (obj g T cs' :: L) := by
  obtain ⟨i0, e1, _, e3, _⟩ := inf109
  exact m_store e1 h hx hy (by rw [e3]; exact hsz) (by rw [e3]; exact hl) h1 hsp
theorem stor109 {N : Nat} {ρ : Nat → Value} {H : Hp} {w : World} {L : List Res} {g e size n cap ty i : Nat} {x y : Operand} {xs xs' : List Value} {v u : Value} (h : St H w (row e size v n xs :: L)) (hv : v = .slice (some ⟨g, 0, none⟩) n cap) (hx : Ev N ρ x (.pointer (some ⟨g, i, none⟩))) (hy : Ev N ρ y u) (hsz : u.cells.size = 1) (hl : i + 1 ≤ xs.length) (h1 : ∀ u' ∈ u.cells.toList, u'.oneCell' = true) (hsp : splice xs i u.cells.toList = xs') : ∃ w', Ex0 Tryd.prog N ρ w (.store 109 x y) ty w' ∧ St H w' (row e size v n xs' :: L) := by
  obtain ⟨i0, e1, _, e3, _⟩ := inf109
  exact m_storeRow e1 h hv hx hy (by rw [e3]; exact hsz) (by rw [e3]; exact hl) h1 hsp
theorem al109 {N : Nat} {ρ : Nat → Value} {H : Hp} {w : World} {L : List Res} {ty : Nat} {cs : List Value} (h : St H w L) (hv : (.int .i32 0 : Value).cells = cs.toArray) : ∃ v' w', Ex Tryd.prog N ρ w (.alloc 109) ty v' w' ∧ ∃ g, v' = .pointer (some ⟨g, 0, none⟩) ∧ St H w' (obj g 109 cs :: L) := by
  obtain ⟨i0, e1, e2, _, _⟩ := inf109
  exact m_alloc e1 e2 h hv
theorem fa7_0 {N : Nat} {ρ : Nat → Value} {w : World} {ty b o : Nat} {x : Operand} (hx : Ev N ρ x (.pointer (some ⟨b, o, none⟩))) : Ex Tryd.prog N ρ w (.fieldAddr 7 x 0) ty (.pointer (some ⟨b, o + 0, none⟩)) w := by
  obtain ⟨i0, h1, _, h3, _⟩ := inf2
  have := x_fieldAddr (ty := ty) (w := w) Tryd.underlying7 (f := 0) rfl h1 (by rw [h3]; decide) hx
  rwa [add_none] at this
theorem fa7_1 {N : Nat} {ρ : Nat → Value} {w : World} {ty b o : Nat} {x : Operand} (hx : Ev N ρ x (.pointer (some ⟨b, o, none⟩))) : Ex Tryd.prog N ρ w (.fieldAddr 7 x 1) ty (.pointer (some ⟨b, o + 1, none⟩)) w := by
  obtain ⟨i0, h1, _, h3, _⟩ := inf3
  have := x_fieldAddr (ty := ty) (w := w) Tryd.underlying7 (f := 1) rfl h1 (by rw [h3]; decide) hx
  rwa [add_none] at this
theorem fa7_2 {N : Nat} {ρ : Nat → Value} {w : World} {ty b o : Nat} {x : Operand} (hx : Ev N ρ x (.pointer (some ⟨b, o, none⟩))) : Ex Tryd.prog N ρ w (.fieldAddr 7 x 2) ty (.pointer (some ⟨b, o + 2, none⟩)) w := by
  obtain ⟨i0, h1, _, h3, _⟩ := inf4
  have := x_fieldAddr (ty := ty) (w := w) Tryd.underlying7 (f := 2) rfl h1 (by rw [h3]; decide) hx
  rwa [add_none] at this
theorem fa7_3 {N : Nat} {ρ : Nat → Value} {w : World} {ty b o : Nat} {x : Operand} (hx : Ev N ρ x (.pointer (some ⟨b, o, none⟩))) : Ex Tryd.prog N ρ w (.fieldAddr 7 x 3) ty (.pointer (some ⟨b, o + 3, none⟩)) w := by
  obtain ⟨i0, h1, _, h3, _⟩ := inf6
  have := x_fieldAddr (ty := ty) (w := w) Tryd.underlying7 (f := 3) rfl h1 (by rw [h3]; decide) hx
  rwa [add_none] at this
theorem fa8_0 {N : Nat} {ρ : Nat → Value} {w : World} {ty b o : Nat} {x : Operand} (hx : Ev N ρ x (.pointer (some ⟨b, o, none⟩))) : Ex Tryd.prog N ρ w (.fieldAddr 8 x 0) ty (.pointer (some ⟨b, o + 0, none⟩)) w := by
  obtain ⟨i0, h1, _, h3, _⟩ := inf2
  have := x_fieldAddr (ty := ty) (w := w) Tryd.underlying8 (f := 0) rfl h1 (by rw [h3]; decide) hx
  rwa [add_none] at this
theorem fa8_1 {N : Nat} {ρ : Nat → Value} {w : World} {ty b o : Nat} {x : Operand} (hx : Ev N ρ x (.pointer (some ⟨b, o, none⟩))) : Ex Tryd.prog N ρ w (.fieldAddr 8 x 1) ty (.pointer (some ⟨b, o + 1, none⟩)) w := by
  obtain ⟨i0, h1, _, h3, _⟩ := inf3
  have := x_fieldAddr (ty := ty) (w := w) Tryd.underlying8 (f := 1) rfl h1 (by rw [h3]; decide) hx
  rwa [add_none] at this
theorem fa8_2 {N : Nat} {ρ : Nat → Value} {w : World} {ty b o : Nat} {x : Operand} (hx : Ev N ρ x (.pointer (some ⟨b, o, none⟩))) : Ex Tryd.prog N ρ w (.fieldAddr 8 x 2) ty (.pointer (some ⟨b, o + 2, none⟩)) w := by
  obtain ⟨i0, h1, _, h3, _⟩ := inf4
  have := x_fieldAddr (ty := ty) (w := w) Tryd.underlying8 (f := 2) rfl h1 (by rw [h3]; decide) hx
  rwa [add_none] at this
theorem fa8_3 {N : Nat} {ρ : Nat → Value} {w : World} {ty b o : Nat} {x : Operand} (hx : Ev N ρ x (.pointer (some ⟨b, o, none⟩))) : Ex Tryd.prog N ρ w (.fieldAddr 8 x 3) ty (.pointer (some ⟨b, o + 3, none⟩)) w := by
  obtain ⟨i0, h1, _, h3, _⟩ := inf6
  have := x_fieldAddr (ty := ty) (w := w) Tryd.underlying8 (f := 3) rfl h1 (by rw [h3]; decide) hx
  rwa [add_none] at this
theorem fa13_0 {N : Nat} {ρ : Nat → Value} {w : World} {ty b o : Nat} {x : Operand} (hx : Ev N ρ x (.pointer (some ⟨b, o, none⟩))) : Ex Tryd.prog N ρ w (.fieldAddr 13 x 0) ty (.pointer (some ⟨b, o + 0, none⟩)) w := by
  obtain ⟨i0, h1, _, h3, _⟩ := inf9
  have := x_fieldAddr (ty := ty) (w := w) Tryd.underlying13 (f := 0) rfl h1 (by rw [h3]; decide) hx
  rwa [add_none] at this
theorem fa13_1 {N : Nat} {ρ : Nat → Value} {w : World} {ty b o : Nat} {x : Operand} (hx : Ev N ρ x (.pointer (some ⟨b, o, none⟩))) : Ex Tryd.prog N ρ w (.fieldAddr 13 x 1) ty (.pointer (some ⟨b, o + 1, none⟩)) w := by
  obtain ⟨i0, h1, _, h3, _⟩ := inf12
  have := x_fieldAddr (ty := ty) (w := w) Tryd.underlying13 (f := 1) rfl h1 (by rw [h3]; decide) hx
  rwa [add_none] at this
theorem fa14_0 {N : Nat} {ρ : Nat → Value} {w : World} {ty b o : Nat} {x : Operand} (hx : Ev N ρ x (.pointer (some ⟨b, o, none⟩))) : Ex Tryd.prog N ρ w (.fieldAddr 14 x 0) ty (.pointer (some ⟨b, o + 0, none⟩)) w := by
  obtain ⟨i0, h1, _, h3, _⟩ := inf9
  have := x_fieldAddr (ty := ty) (w := w) Tryd.underlying14 (f := 0) rfl h1 (by rw [h3]; decide) hx
  rwa [add_none] at this
theorem fa14_1 {N : Nat} {ρ : Nat → Value} {w : World} {ty b o : Nat} {x : Operand} (hx : Ev N ρ x (.pointer (some ⟨b, o, none⟩))) : Ex Tryd.prog N ρ w (.fieldAddr 14 x 1) ty (.pointer (some ⟨b, o + 1, none⟩)) w := by
  obtain ⟨i0, h1, _, h3, _⟩ := inf12
  have := x_fieldAddr (ty := ty) (w := w) Tryd.underlying14 (f := 1) rfl h1 (by rw [h3]; decide) hx
  rwa [add_none] at this
theorem fa18_0 {N : Nat} {ρ : Nat → Value} {w : World} {ty b o : Nat} {x : Operand} (hx : Ev N ρ x (.pointer (some ⟨b, o, none⟩))) : Ex Tryd.prog N ρ w (.fieldAddr 18 x 0) ty (.pointer (some ⟨b, o + 0, none⟩)) w := by
  obtain ⟨i0, h1, _, h3, _⟩ := inf17
  have := x_fieldAddr (ty := ty) (w := w) Tryd.underlying18 (f := 0) rfl h1 (by rw [h3]; decide) hx
  rwa [add_none] at this
theorem fa19_0 {N : Nat} {ρ : Nat → Value} {w : World} {ty b o : Nat} {x : Operand} (hx : Ev N ρ x (.pointer (some ⟨b, o, none⟩))) : Ex Tryd.prog N ρ w (.fieldAddr 19 x 0) ty (.pointer (some ⟨b, o + 0, none⟩)) w := by
  obtain ⟨i0, h1, _, h3, _⟩ := inf17
  have := x_fieldAddr (ty := ty) (w := w) Tryd.underlying19 (f := 0) rfl h1 (by rw [h3]; decide) hx
  rwa [add_none] at this
theorem fa33_0 {N : Nat} {ρ : Nat → Value} {w : World} {ty b o : Nat} {x : Operand} (hx : Ev N ρ x (.pointer (some ⟨b, o, none⟩))) : Ex Tryd.prog N ρ w (.fieldAddr 33 x 0) ty (.pointer (some ⟨b, o + 0, none⟩)) w := by
  obtain ⟨i0, h1, _, h3, _⟩ := inf3
  have := x_fieldAddr (ty := ty) (w := w) Tryd.underlying33 (f := 0) rfl h1 (by rw [h3]; decide) hx
  rwa [add_none] at this
theorem fa33_1 {N : Nat} {ρ : Nat → Value} {w : World} {ty b o : Nat} {x : Operand} (hx : Ev N ρ x (.pointer (some ⟨b, o, none⟩))) : Ex Tryd.prog N ρ w (.fieldAddr 33 x 1) ty (.pointer (some ⟨b, o + 1, none⟩)) w := by
  obtain ⟨i0, h1, _, h3, _⟩ := inf30
  have := x_fieldAddr (ty := ty) (w := w) Tryd.underlying33 (f := 1) rfl h1 (by rw [h3]; decide) hx
  rwa [add_none] at this
theorem fa34_0 {N : Nat} {ρ : Nat → Value} {w : World} {ty b o : Nat} {x : Operand} (hx : Ev N ρ x (.pointer (some ⟨b, o, none⟩))) : Ex Tryd.prog N ρ w (.fieldAddr 34 x 0) ty (.pointer (some ⟨b, o + 0, none⟩)) w := by
  obtain ⟨i0, h1, _, h3, _⟩ := inf3
  have := x_fieldAddr (ty := ty) (w := w) Tryd.underlying34 (f := 0) rfl h1 (by rw [h3]; decide) hx
  rwa [add_none] at this
theorem fa34_1 {N : Nat} {ρ : Nat → Value} {w : World} {ty b o : Nat} {x : Operand} (hx : Ev N ρ x (.pointer (some ⟨b, o, none⟩))) : Ex Tryd.prog N ρ w (.fieldAddr 34 x 1) ty (.pointer (some ⟨b, o + 1, none⟩)) w := by
  obtain ⟨i0, h1, _, h3, _⟩ := inf30
  have := x_fieldAddr (ty := ty) (w := w) Tryd.underlying34 (f := 1) rfl h1 (by rw [h3]; decide) hx
  rwa [add_none] at this
theorem fa43_0 {N : Nat} {ρ : Nat → Value} {w : World} {ty b o : Nat} {x : Operand} (hx : Ev N ρ x (.pointer (some ⟨b, o, none⟩))) : Ex Tryd.prog N ρ w (.fieldAddr 43 x 0) ty (.pointer (some ⟨b, o + 0, none⟩)) w := by
  obtain ⟨i0, h1, _, h3, _⟩ := inf42
  have := x_fieldAddr (ty := ty) (w := w) Tryd.underlying43 (f := 0) rfl h1 (by rw [h3]; decide) hx
  rwa [add_none] at this
theorem fa43_1 {N : Nat} {ρ : Nat → Value} {w : World} {ty b o : Nat} {x : Operand} (hx : Ev N ρ x (.pointer (some ⟨b, o, none⟩))) : Ex Tryd.prog N ρ w (.fieldAddr 43 x 1) ty (.pointer (some ⟨b, o + 1, none⟩)) w := by
  obtain ⟨i0, h1, _, h3, _⟩ := inf3
  have := x_fieldAddr (ty := ty) (w := w) Tryd.underlying43 (f := 1) rfl h1 (by rw [h3]; decide) hx
  rwa [add_none] at this
theorem fa44_0 {N : Nat} {ρ : Nat → Value} {w : World} {ty b o : Nat} {x : Operand} (hx : Ev N ρ x (.pointer (some ⟨b, o, none⟩))) : Ex Tryd.prog N ρ w (.fieldAddr 44 x 0) ty (.pointer (some ⟨b, o + 0, none⟩)) w := by
  obtain ⟨i0, h1, _, h3, _⟩ := inf42
  have := x_fieldAddr (ty := ty) (w := w) Tryd.underlying44 (f := 0) rfl h1 (by rw [h3]; decide) hx
  rwa [add_none] at this
theorem fa44_1 {N : Nat} {ρ : Nat → Value} {w : World} {ty b o : Nat} {x : Operand} (hx : Ev N ρ x (.pointer (some ⟨b, o, none⟩))) : Ex Tryd.prog N ρ w (.fieldAddr 44 x 1) ty (.pointer (some ⟨b, o + 1, none⟩)) w := by
  obtain ⟨i0, h1, _, h3, _⟩ := inf3
  have := x_fieldAddr (ty := ty) (w := w) Tryd.underlying44 (f := 1) rfl h1 (by rw [h3]; decide) hx
  rwa [add_none] at this
theorem fa46_0 {N : Nat} {ρ : Nat → Value} {w : World} {ty b o : Nat} {x : Operand} (hx : Ev N ρ x (.pointer (some ⟨b, o, none⟩))) : Ex Tryd.prog N ρ w (.fieldAddr 46 x 0) ty (.pointer (some ⟨b, o + 0, none⟩)) w := by
  obtain ⟨i0, h1, _, h3, _⟩ := inf44
  have := x_fieldAddr (ty := ty) (w := w) Tryd.underlying46 (f := 0) rfl h1 (by rw [h3]; decide) hx
  rwa [add_none] at this
theorem fa46_1 {N : Nat} {ρ : Nat → Value} {w : World} {ty b o : Nat} {x : Operand} (hx : Ev N ρ x (.pointer (some ⟨b, o, none⟩))) : Ex Tryd.prog N ρ w (.fieldAddr 46 x 1) ty (.pointer (some ⟨b, o + 2, none⟩)) w := by
  obtain ⟨i0, h1, _, h3, _⟩ := inf45
  have := x_fieldAddr (ty := ty) (w := w) Tryd.underlying46 (f := 1) rfl h1 (by rw [h3]; decide) hx
  rwa [add_none] at this
theorem fa47_0 {N : Nat} {ρ : Nat → Value} {w : World} {ty b o : Nat} {x : Operand} (hx : Ev N ρ x (.pointer (some ⟨b, o, none⟩))) : Ex Tryd.prog N ρ w (.fieldAddr 47 x 0) ty (.pointer (some ⟨b, o + 0, none⟩)) w := by
  obtain ⟨i0, h1, _, h3, _⟩ := inf44
  have := x_fieldAddr (ty := ty) (w := w) Tryd.underlying47 (f := 0) rfl h1 (by rw [h3]; decide) hx
  rwa [add_none] at this
theorem fa47_1 {N : Nat} {ρ : Nat → Value} {w : World} {ty b o : Nat} {x : Operand} (hx : Ev N ρ x (.pointer (some ⟨b, o, none⟩))) : Ex Tryd.prog N ρ w (.fieldAddr 47 x 1) ty (.pointer (some ⟨b, o + 2, none⟩)) w := by
  obtain ⟨i0, h1, _, h3, _⟩ := inf45
  have := x_fieldAddr (ty := ty) (w := w) Tryd.underlying47 (f := 1) rfl h1 (by rw [h3]; decide) hx
  rwa [add_none] at this
theorem fa48_0 {N : Nat} {ρ : Nat → Value} {w : World} {ty b o : Nat} {x : Operand} (hx : Ev N ρ x (.pointer (some ⟨b, o, none⟩))) : Ex Tryd.prog N ρ w (.fieldAddr 48 x 0) ty (.pointer (some ⟨b, o + 0, none⟩)) w := by
  obtain ⟨i0, h1, _, h3, _⟩ := inf5
  have := x_fieldAddr (ty := ty) (w := w) Tryd.underlying48 (f := 0) rfl h1 (by rw [h3]; decide) hx
  rwa [add_none] at this
theorem fa48_1 {N : Nat} {ρ : Nat → Value} {w : World} {ty b o : Nat} {x : Operand} (hx : Ev N ρ x (.pointer (some ⟨b, o, none⟩))) : Ex Tryd.prog N ρ w (.fieldAddr 48 x 1) ty (.pointer (some ⟨b, o + 1, none⟩)) w := by
  obtain ⟨i0, h1, _, h3, _⟩ := inf47
  have := x_fieldAddr (ty := ty) (w := w) Tryd.underlying48 (f := 1) rfl h1 (by rw [h3]; decide) hx
  rwa [add_none] at this
theorem fa48_2 {N : Nat} {ρ : Nat → Value} {w : World} {ty b o : Nat} {x : Operand} (hx : Ev N ρ x (.pointer (some ⟨b, o, none⟩))) : Ex Tryd.prog N ρ w (.fieldAddr 48 x 2) ty (.pointer (some ⟨b, o + 4, none⟩)) w := by
  obtain ⟨i0, h1, _, h3, _⟩ := inf3
  have := x_fieldAddr (ty := ty) (w := w) Tryd.underlying48 (f := 2) rfl h1 (by rw [h3]; decide) hx
  rwa [add_none] at this
theorem fa48_3 {N : Nat} {ρ : Nat → Value} {w : World} {ty b o : Nat} {x : Operand} (hx : Ev N ρ x (.pointer (some ⟨b, o, none⟩))) : Ex Tryd.prog N ρ w (.fieldAddr 48 x 3) ty (.pointer (some ⟨b, o + 5, none⟩)) w := by
  obtain ⟨i0, h1, _, h3, _⟩ := inf30
  have := x_fieldAddr (ty := ty) (w := w) Tryd.underlying48 (f := 3) rfl h1 (by rw [h3]; decide) hx
  rwa [add_none] at this
theorem fa49_0 {N : Nat} {ρ : Nat → Value} {w : World} {ty b o : Nat} {x : Operand} (hx : Ev N ρ x (.pointer (some ⟨b, o, none⟩))) : Ex Tryd.prog N ρ w (.fieldAddr 49 x 0) ty (.pointer (some ⟨b, o + 0, none⟩)) w := by
  obtain ⟨i0, h1, _, h3, _⟩ := inf5
  have := x_fieldAddr (ty := ty) (w := w) Tryd.underlying49 (f := 0) rfl h1 (by rw [h3]; decide) hx
  rwa [add_none] at this
theorem fa49_1 {N : Nat} {ρ : Nat → Value} {w : World} {ty b o : Nat} {x : Operand} (hx : Ev N ρ x (.pointer (some ⟨b, o, none⟩))) : Ex Tryd.prog N ρ w (.fieldAddr 49 x 1) ty (.pointer (some ⟨b, o + 1, none⟩)) w := by
  obtain ⟨i0, h1, _, h3, _⟩ := inf47
  have := x_fieldAddr (ty := ty) (w := w) Tryd.underlying49 (f := 1) rfl h1 (by rw [h3]; decide) hx
  rwa [add_none] at this
theorem fa49_2 {N : Nat} {ρ : Nat → Value} {w : World} {ty b o : Nat} {x : Operand} (hx : Ev N ρ x (.pointer (some ⟨b, o, none⟩))) : Ex Tryd.prog N ρ w (.fieldAddr 49 x 2) ty (.pointer (some ⟨b, o + 4, none⟩)) w := by
  obtain ⟨i0, h1, _, h3, _⟩ := inf3
  have := x_fieldAddr (ty := ty) (w := w) Tryd.underlying49 (f := 2) rfl h1 (by rw [h3]; decide) hx
  rwa [add_none] at this
theorem fa49_3 {N : Nat} {ρ : Nat → Value} {w : World} {ty b o : Nat} {x : Operand} (hx : Ev N ρ x (.pointer (some ⟨b, o, none⟩))) : Ex Tryd.prog N ρ w (.fieldAddr 49 x 3) ty (.pointer (some ⟨b, o + 5, none⟩)) w := by
  obtain ⟨i0, h1, _, h3, _⟩ := inf30
  have := x_fieldAddr (ty := ty) (w := w) Tryd.underlying49 (f := 3) rfl h1 (by rw [h3]; decide) hx
  rwa [add_none] at this
theorem fa61_0 {N : Nat} {ρ : Nat → Value} {w : World} {ty b o : Nat} {x : Operand} (hx : Ev N ρ x (.pointer (some ⟨b, o, none⟩))) : Ex Tryd.prog N ρ w (.fieldAddr 61 x 0) ty (.pointer (some ⟨b, o + 0, none⟩)) w := by
  obtain ⟨i0, h1, _, h3, _⟩ := inf3
  have := x_fieldAddr (ty := ty) (w := w) Tryd.underlying61 (f := 0) rfl h1 (by rw [h3]; decide) hx
  rwa [add_none] at this
theorem fa61_1 {N : Nat} {ρ : Nat → Value} {w : World} {ty b o : Nat} {x : Operand} (hx : Ev N ρ x (.pointer (some ⟨b, o, none⟩))) : Ex Tryd.prog N ρ w (.fieldAddr 61 x 1) ty (.pointer (some ⟨b, o + 1, none⟩)) w := by
  obtain ⟨i0, h1, _, h3, _⟩ := inf47
  have := x_fieldAddr (ty := ty) (w := w) Tryd.underlying61 (f := 1) rfl h1 (by rw [h3]; decide) hx
  rwa [add_none] at this
theorem fa61_2 {N : Nat} {ρ : Nat → Value} {w : World} {ty b o : Nat} {x : Operand} (hx : Ev N ρ x (.pointer (some ⟨b, o, none⟩))) : Ex Tryd.prog N ρ w (.fieldAddr 61 x 2) ty (.pointer (some ⟨b, o + 4, none⟩)) w := by
  obtain ⟨i0, h1, _, h3, _⟩ := inf25
  have := x_fieldAddr (ty := ty) (w := w) Tryd.underlying61 (f := 2) rfl h1 (by rw [h3]; decide) hx
  rwa [add_none] at this
theorem fa61_3 {N : Nat} {ρ : Nat → Value} {w : World} {ty b o : Nat} {x : Operand} (hx : Ev N ρ x (.pointer (some ⟨b, o, none⟩))) : Ex Tryd.prog N ρ w (.fieldAddr 61 x 3) ty (.pointer (some ⟨b, o + 5, none⟩)) w := by
  obtain ⟨i0, h1, _, h3, _⟩ := inf25
  have := x_fieldAddr (ty := ty) (w := w) Tryd.underlying61 (f := 3) rfl h1 (by rw [h3]; decide) hx
  rwa [add_none] at this
theorem fa61_4 {N : Nat} {ρ : Nat → Value} {w : World} {ty b o : Nat} {x : Operand} (hx : Ev N ρ x (.pointer (some ⟨b, o, none⟩))) : Ex Tryd.prog N ρ w (.fieldAddr 61 x 4) ty (.pointer (some ⟨b, o + 6, none⟩)) w := by
  obtain ⟨i0, h1, _, h3, _⟩ := inf3
  have := x_fieldAddr (ty := ty) (w := w) Tryd.underlying61 (f := 4) rfl h1 (by rw [h3]; decide) hx
  rwa [add_none] at this
theorem fa61_5 {N : Nat} {ρ : Nat → Value} {w : World} {ty b o : Nat} {x : Operand} (hx : Ev N ρ x (.pointer (some ⟨b, o, none⟩))) : Ex Tryd.prog N ρ w (.fieldAddr 61 x 5) ty (.pointer (some ⟨b, o + 7, none⟩)) w := by
  obtain ⟨i0, h1, _, h3, _⟩ := inf44
  have := x_fieldAddr (ty := ty) (w := w) Tryd.underlying61 (f := 5) rfl h1 (by rw [h3]; decide) hx
  rwa [add_none] at this
theorem fa62_0 {N : Nat} {ρ : Nat → Value} {w : World} {ty b o : Nat} {x : Operand} (hx : Ev N ρ x (.pointer (some ⟨b, o, none⟩))) : Ex Tryd.prog N ρ w (.fieldAddr 62 x 0) ty (.pointer (some ⟨b, o + 0, none⟩)) w := by
  obtain ⟨i0, h1, _, h3, _⟩ := inf3
  have := x_fieldAddr (ty := ty) (w := w) Tryd.underlying62 (f := 0) rfl h1 (by rw [h3]; decide) hx
  rwa [add_none] at this
theorem fa62_1 {N : Nat} {ρ : Nat → Value} {w : World} {ty b o : Nat} {x : Operand} (hx : Ev N ρ x (.pointer (some ⟨b, o, none⟩))) : Ex Tryd.prog N ρ w (.fieldAddr 62 x 1) ty (.pointer (some ⟨b, o + 1, none⟩)) w := by
  obtain ⟨i0, h1, _, h3, _⟩ := inf47
  have := x_fieldAddr (ty := ty) (w := w) Tryd.underlying62 (f := 1) rfl h1 (by rw [h3]; decide) hx
  rwa [add_none] at this
theorem fa62_2 {N : Nat} {ρ : Nat → Value} {w : World} {ty b o : Nat} {x : Operand} (hx : Ev N ρ x (.pointer (some ⟨b, o, none⟩))) : Ex Tryd.prog N ρ w (.fieldAddr 62 x 2) ty (.pointer (some ⟨b, o + 4, none⟩)) w := by
  obtain ⟨i0, h1, _, h3, _⟩ := inf25
  have := x_fieldAddr (ty := ty) (w := w) Tryd.underlying62 (f := 2) rfl h1 (by rw [h3]; decide) hx
  rwa [add_none] at this
theorem fa62_3 {N : Nat} {ρ : Nat → Value} {w : World} {ty b o : Nat} {x : Operand} (hx : Ev N ρ x (.pointer (some ⟨b, o, none⟩))) : Ex Tryd.prog N ρ w (.fieldAddr 62 x 3) ty (.pointer (some ⟨b, o + 5, none⟩)) w := by
  obtain ⟨i0, h1, _, h3, _⟩ := inf25
  have := x_fieldAddr (ty := ty) (w := w) Tryd.underlying62 (f := 3) rfl h1 (by rw [h3]; decide) hx
  rwa [add_none] at this
theorem fa62_4 {N : Nat} {ρ : Nat → Value} {w : World} {ty b o : Nat} {x : Operand} (hx : Ev N ρ x (.pointer (some ⟨b, o, none⟩))) : Ex Tryd.prog N ρ w (.fieldAddr 62 x 4) ty (.pointer (some ⟨b, o + 6, none⟩)) w := by
  obtain ⟨i0, h1, _, h3, _⟩ := inf3
  have := x_fieldAddr (ty := ty) (w := w) Tryd.underlying62 (f := 4) rfl h1 (by rw [h3]; decide) hx
  rwa [add_none] at this
theorem fa62_5 {N : Nat} {ρ : Nat → Value} {w : World} {ty b o : Nat} {x : Operand} (hx : Ev N ρ x (.pointer (some ⟨b, o, none⟩))) : Ex Tryd.prog N ρ w (.fieldAddr 62 x 5) ty (.pointer (some ⟨b, o + 7, none⟩)) w := by
  obtain ⟨i0, h1, _, h3, _⟩ := inf44
  have := x_fieldAddr (ty := ty) (w := w) Tryd.underlying62 (f := 5) rfl h1 (by rw [h3]; decide) hx
  rwa [add_none] at this
theorem fa66_0 {N : Nat} {ρ : Nat → Value} {w : World} {ty b o : Nat} {x : Operand} (hx : Ev N ρ x (.pointer (some ⟨b, o, none⟩))) : Ex Tryd.prog N ρ w (.fieldAddr 66 x 0) ty (.pointer (some ⟨b, o + 0, none⟩)) w := by
  obtain ⟨i0, h1, _, h3, _⟩ := inf45
  have := x_fieldAddr (ty := ty) (w := w) Tryd.underlying66 (f := 0) rfl h1 (by rw [h3]; decide) hx
  rwa [add_none] at this
theorem fa66_1 {N : Nat} {ρ : Nat → Value} {w : World} {ty b o : Nat} {x : Operand} (hx : Ev N ρ x (.pointer (some ⟨b, o, none⟩))) : Ex Tryd.prog N ρ w (.fieldAddr 66 x 1) ty (.pointer (some ⟨b, o + 1, none⟩)) w := by
  obtain ⟨i0, h1, _, h3, _⟩ := inf65
  have := x_fieldAddr (ty := ty) (w := w) Tryd.underlying66 (f := 1) rfl h1 (by rw [h3]; decide) hx
  rwa [add_none] at this
theorem fa66_2 {N : Nat} {ρ : Nat → Value} {w : World} {ty b o : Nat} {x : Operand} (hx : Ev N ρ x (.pointer (some ⟨b, o, none⟩))) : Ex Tryd.prog N ρ w (.fieldAddr 66 x 2) ty (.pointer (some ⟨b, o + 2, none⟩)) w := by
  obtain ⟨i0, h1, _, h3, _⟩ := inf30
  have := x_fieldAddr (ty := ty) (w := w) Tryd.underlying66 (f := 2) rfl h1 (by rw [h3]; decide) hx
  rwa [add_none] at this
theorem fa66_3 {N : Nat} {ρ : Nat → Value} {w : World} {ty b o : Nat} {x : Operand} (hx : Ev N ρ x (.pointer (some ⟨b, o, none⟩))) : Ex Tryd.prog N ρ w (.fieldAddr 66 x 3) ty (.pointer (some ⟨b, o + 3, none⟩)) w := by
  obtain ⟨i0, h1, _, h3, _⟩ := inf30
  have := x_fieldAddr (ty := ty) (w := w) Tryd.underlying66 (f := 3) rfl h1 (by rw [h3]; decide) hx
  rwa [add_none] at this
theorem fa67_0 {N : Nat} {ρ : Nat → Value} {w : World} {ty b o : Nat} {x : Operand} (hx : Ev N ρ x (.pointer (some ⟨b, o, none⟩))) : Ex Tryd.prog N ρ w (.fieldAddr 67 x 0) ty (.pointer (some ⟨b, o + 0, none⟩)) w := by
  obtain ⟨i0, h1, _, h3, _⟩ := inf45
  have := x_fieldAddr (ty := ty) (w := w) Tryd.underlying67 (f := 0) rfl h1 (by rw [h3]; decide) hx
  rwa [add_none] at this
theorem fa67_1 {N : Nat} {ρ : Nat → Value} {w : World} {ty b o : Nat} {x : Operand} (hx : Ev N ρ x (.pointer (some ⟨b, o, none⟩))) : Ex Tryd.prog N ρ w (.fieldAddr 67 x 1) ty (.pointer (some ⟨b, o + 1, none⟩)) w := by
  obtain ⟨i0, h1, _, h3, _⟩ := inf65
  have := x_fieldAddr (ty := ty) (w := w) Tryd.underlying67 (f := 1) rfl h1 (by rw [h3]; decide) hx
  rwa [add_none] at this
theorem fa67_2 {N : Nat} {ρ : Nat → Value} {w : World} {ty b o : Nat} {x : Operand} (hx : Ev N ρ x (.pointer (some ⟨b, o, none⟩))) : Ex Tryd.prog N ρ w (.fieldAddr 67 x 2) ty (.pointer (some ⟨b, o + 2, none⟩)) w := by
  obtain ⟨i0, h1, _, h3, _⟩ := inf30
  have := x_fieldAddr (ty := ty) (w := w) Tryd.underlying67 (f := 2) rfl h1 (by rw [h3]; decide) hx
  rwa [add_none] at this
theorem fa67_3 {N : Nat} {ρ : Nat → Value} {w : World} {ty b o : Nat} {x : Operand} (hx : Ev N ρ x (.pointer (some ⟨b, o, none⟩))) : Ex Tryd.prog N ρ w (.fieldAddr 67 x 3) ty (.pointer (some ⟨b, o + 3, none⟩)) w := by
  obtain ⟨i0, h1, _, h3, _⟩ := inf30
  have := x_fieldAddr (ty := ty) (w := w) Tryd.underlying67 (f := 3) rfl h1 (by rw [h3]; decide) hx
  rwa [add_none] at this
theorem fa68_0 {N : Nat} {ρ : Nat → Value} {w : World} {ty b o : Nat} {x : Operand} (hx : Ev N ρ x (.pointer (some ⟨b, o, none⟩))) : Ex Tryd.prog N ρ w (.fieldAddr 68 x 0) ty (.pointer (some ⟨b, o + 0, none⟩)) w := by
  obtain ⟨i0, h1, _, h3, _⟩ := inf5
  have := x_fieldAddr (ty := ty) (w := w) Tryd.underlying68 (f := 0) rfl h1 (by rw [h3]; decide) hx
  rwa [add_none] at this
theorem fa68_1 {N : Nat} {ρ : Nat → Value} {w : World} {ty b o : Nat} {x : Operand} (hx : Ev N ρ x (.pointer (some ⟨b, o, none⟩))) : Ex Tryd.prog N ρ w (.fieldAddr 68 x 1) ty (.pointer (some ⟨b, o + 1, none⟩)) w := by
  obtain ⟨i0, h1, _, h3, _⟩ := inf30
  have := x_fieldAddr (ty := ty) (w := w) Tryd.underlying68 (f := 1) rfl h1 (by rw [h3]; decide) hx
  rwa [add_none] at this
theorem fa69_0 {N : Nat} {ρ : Nat → Value} {w : World} {ty b o : Nat} {x : Operand} (hx : Ev N ρ x (.pointer (some ⟨b, o, none⟩))) : Ex Tryd.prog N ρ w (.fieldAddr 69 x 0) ty (.pointer (some ⟨b, o + 0, none⟩)) w := by
  obtain ⟨i0, h1, _, h3, _⟩ := inf5
  have := x_fieldAddr (ty := ty) (w := w) Tryd.underlying69 (f := 0) rfl h1 (by rw [h3]; decide) hx
  rwa [add_none] at this
theorem fa69_1 {N : Nat} {ρ : Nat → Value} {w : World} {ty b o : Nat} {x : Operand} (hx : Ev N ρ x (.pointer (some ⟨b, o, none⟩))) : Ex Tryd.prog N ρ w (.fieldAddr 69 x 1) ty (.pointer (some ⟨b, o + 1, none⟩)) w := by
  obtain ⟨i0, h1, _, h3, _⟩ := inf30
  have := x_fieldAddr (ty := ty) (w := w) Tryd.underlying69 (f := 1) rfl h1 (by rw [h3]; decide) hx
  rwa [add_none] at this
theorem fa98_0 {N : Nat} {ρ : Nat → Value} {w : World} {ty b o : Nat} {x : Operand} (hx : Ev N ρ x (.pointer (some ⟨b, o, none⟩))) : Ex Tryd.prog N ρ w (.fieldAddr 98 x 0) ty (.pointer (some ⟨b, o + 0, none⟩)) w := by
  obtain ⟨i0, h1, _, h3, _⟩ := inf17
  have := x_fieldAddr (ty := ty) (w := w) Tryd.underlying98 (f := 0) rfl h1 (by rw [h3]; decide) hx
  rwa [add_none] at this
theorem fa98_1 {N : Nat} {ρ : Nat → Value} {w : World} {ty b o : Nat} {x : Operand} (hx : Ev N ρ x (.pointer (some ⟨b, o, none⟩))) : Ex Tryd.prog N ρ w (.fieldAddr 98 x 1) ty (.pointer (some ⟨b, o + 1, none⟩)) w := by
  obtain ⟨i0, h1, _, h3, _⟩ := inf17
  have := x_fieldAddr (ty := ty) (w := w) Tryd.underlying98 (f := 1) rfl h1 (by rw [h3]; decide) hx
  rwa [add_none] at this
theorem fa98_2 {N : Nat} {ρ : Nat → Value} {w : World} {ty b o : Nat} {x : Operand} (hx : Ev N ρ x (.pointer (some ⟨b, o, none⟩))) : Ex Tryd.prog N ρ w (.fieldAddr 98 x 2) ty (.pointer (some ⟨b, o + 2, none⟩)) w := by
  obtain ⟨i0, h1, _, h3, _⟩ := inf17
  have := x_fieldAddr (ty := ty) (w := w) Tryd.underlying98 (f := 2) rfl h1 (by rw [h3]; decide) hx
  rwa [add_none] at this
theorem fa98_3 {N : Nat} {ρ : Nat → Value} {w : World} {ty b o : Nat} {x : Operand} (hx : Ev N ρ x (.pointer (some ⟨b, o, none⟩))) : Ex Tryd.prog N ρ w (.fieldAddr 98 x 3) ty (.pointer (some ⟨b, o + 3, none⟩)) w := by
  obtain ⟨i0, h1, _, h3, _⟩ := inf9
  have := x_fieldAddr (ty := ty) (w := w) Tryd.underlying98 (f := 3) rfl h1 (by rw [h3]; decide) hx
  rwa [add_none] at this
theorem fa99_0 {N : Nat} {ρ : Nat → Value} {w : World} {ty b o : Nat} {x : Operand} (hx : Ev N ρ x (.pointer (some ⟨b, o, none⟩))) : Ex Tryd.prog N ρ w (.fieldAddr 99 x 0) ty (.pointer (some ⟨b, o + 0, none⟩)) w := by
  obtain ⟨i0, h1, _, h3, _⟩ := inf17
  have := x_fieldAddr (ty := ty) (w := w) Tryd.underlying99 (f := 0) rfl h1 (by rw [h3]; decide) hx
  rwa [add_none] at this
theorem fa99_1 {N : Nat} {ρ : Nat → Value} {w : World} {ty b o : Nat} {x : Operand} (hx : Ev N ρ x (.pointer (some ⟨b, o, none⟩))) : Ex Tryd.prog N ρ w (.fieldAddr 99 x 1) ty (.pointer (some ⟨b, o + 1, none⟩)) w := by
  obtain ⟨i0, h1, _, h3, _⟩ := inf17
  have := x_fieldAddr (ty := ty) (w := w) Tryd.underlying99 (f := 1) rfl h1 (by rw [h3]; decide) hx
  rwa [add_none] at this
theorem fa99_2 {N : Nat} {ρ : Nat → Value} {w : World} {ty b o : Nat} {x : Operand} (hx : Ev N ρ x (.pointer (some ⟨b, o, none⟩))) : Ex Tryd.prog N ρ w (.fieldAddr 99 x 2) ty (.pointer (some ⟨b, o + 2, none⟩)) w := by
  obtain ⟨i0, h1, _, h3, _⟩ := inf17
  have := x_fieldAddr (ty := ty) (w := w) Tryd.underlying99 (f := 2) rfl h1 (by rw [h3]; decide) hx
  rwa [add_none] at this
theorem fa99_3 {N : Nat} {ρ : Nat → Value} {w : World} {ty b o : Nat} {x : Operand} (hx : Ev N ρ x (.pointer (some ⟨b, o, none⟩))) : Ex Tryd.prog N ρ w (.fieldAddr 99 x 3) ty (.pointer (some ⟨b, o + 3, none⟩)) w := by
  obtain ⟨i0, h1, _, h3, _⟩ := inf9
  have := x_fieldAddr (ty := ty) (w := w) Tryd.underlying99 (f := 3) rfl h1 (by rw [h3]; decide) hx
  rwa [add_none] at this
theorem ix22 {N : Nat} {ρ : Nat → Value} {w : World} {ty b o n c : Nat} {A : Option Addr} {x y : Operand} {k : IntKind} {i : Int} (hx : Ev N ρ x (.slice A n c)) (hA : A = some ⟨b, o, none⟩) (hy : Ev N ρ y (.int k i)) (h0 : 0 ≤ i) (h1 : i < n) : Ex Tryd.prog N ρ w (.indexAddr 22 x y) ty (.pointer (some ⟨b, o + i.toNat * 1, none⟩)) w := by
  obtain ⟨i0, e1, _, e3, _⟩ := inf32
  subst hA
  have := x_indexAddr (ty := ty) (w := w) Tryd.underlying22 e1 hx hy h0 h1
  rwa [add_none, e3] at this
theorem ixo22 {N : Nat} {ρ : Nat → Value} {w : World} {ty b o o' n c : Nat} {A : Option Addr} {x y : Operand} {k : IntKind} {i : Int} (hx : Ev N ρ x (.slice A n c)) (hA : A = some ⟨b, o, none⟩) (hy : Ev N ρ y (.int k i)) (h0 : 0 ≤ i) (h1 : i < n) (ho : o + i.toNat * 1 = o') : Ex Tryd.prog N ρ w (.indexAddr 22 x y) ty (.pointer (some ⟨b, o', none⟩)) w := by
  subst ho
  exact ix22 hx hA hy h0 h1
theorem ix23 {N : Nat} {ρ : Nat → Value} {w : World} {ty b o n c : Nat} {A : Option Addr} {x y : Operand} {k : IntKind} {i : Int} (hx : Ev N ρ x (.slice A n c)) (hA : A = some ⟨b, o, none⟩) (hy : Ev N ρ y (.int k i)) (h0 : 0 ≤ i) (h1 : i < n) : Ex Tryd.prog N ρ w (.indexAddr 23 x y) ty (.pointer (some ⟨b, o + i.toNat * 1, none⟩)) w := by
  obtain ⟨i0, e1, _, e3, _⟩ := inf25
  subst hA
  have := x_indexAddr (ty := ty) (w := w) Tryd.underlying23 e1 hx hy h0 h1
  rwa [add_none, e3] at this
theorem ixo23 {N : Nat} {ρ : Nat → Value} {w : World} {ty b o o' n c : Nat} {A : Option Addr} {x y : Operand} {k : IntKind} {i : Int} (hx : Ev N ρ x (.slice A n c)) (hA : A = some ⟨b, o, none⟩) (hy : Ev N ρ y (.int k i)) (h0 : 0 ≤ i) (h1 : i < n) (ho : o + i.toNat * 1 = o') : Ex Tryd.prog N ρ w (.indexAddr 23 x y) ty (.pointer (some ⟨b, o', none⟩)) w := by
  subst ho
  exact ix23 hx hA hy h0 h1
theorem ix25 {N : Nat} {ρ : Nat → Value} {w : World} {ty b o n c : Nat} {A : Option Addr} {x y : Operand} {k : IntKind} {i : Int} (hx : Ev N ρ x (.slice A n c)) (hA : A = some ⟨b, o, none⟩) (hy : Ev N ρ y (.int k i)) (h0 : 0 ≤ i) (h1 : i < n) : Ex Tryd.prog N ρ w (.indexAddr 25 x y) ty (.pointer (some ⟨b, o + i.toNat * 2, none⟩)) w := by
  obtain ⟨i0, e1, _, e3, _⟩ := inf34
  subst hA
  have := x_indexAddr (ty := ty) (w := w) Tryd.underlying25 e1 hx hy h0 h1
  rwa [add_none, e3] at this
theorem ixo25 {N : Nat} {ρ : Nat → Value} {w : World} {ty b o o' n c : Nat} {A : Option Addr} {x y : Operand} {k : IntKind} {i : Int} (hx : Ev N ρ x (.slice A n c)) (hA : A = some ⟨b, o, none⟩) (hy : Ev N ρ y (.int k i)) (h0 : 0 ≤ i) (h1 : i < n) (ho : o + i.toNat * 2 = o') : Ex Tryd.prog N ρ w (.indexAddr 25 x y) ty (.pointer (some ⟨b, o', none⟩)) w := by
  subst ho
  exact ix25 hx hA hy h0 h1
theorem ix30 {N : Nat} {ρ : Nat → Value} {w : World} {ty b o n c : Nat} {A : Option Addr} {x y : Operand} {k : IntKind} {i : Int} (hx : Ev N ρ x (.slice A n c)) (hA : A = some ⟨b, o, none⟩) (hy : Ev N ρ y (.int k i)) (h0 : 0 ≤ i) (h1 : i < n) : Ex Tryd.prog N ρ w (.indexAddr 30 x y) ty (.pointer (some ⟨b, o + i.toNat * 1, none⟩)) w := by
  obtain ⟨i0, e1, _, e3, _⟩ := inf5
  subst hA
  have := x_indexAddr (ty := ty) (w := w) Tryd.underlying30 e1 hx hy h0 h1
  rwa [add_none, e3] at this
theorem ixo30 {N : Nat} {ρ : Nat → Value} {w : World} {ty b o o' n c : Nat} {A : Option Addr} {x y : Operand} {k : IntKind} {i : Int} (hx : Ev N ρ x (.slice A n c)) (hA : A = some ⟨b, o, none⟩) (hy : Ev N ρ y (.int k i)) (h0 : 0 ≤ i) (h1 : i < n) (ho : o + i.toNat * 1 = o') : Ex Tryd.prog N ρ w (.indexAddr 30 x y) ty (.pointer (some ⟨b, o', none⟩)) w := by
  subst ho
  exact ix30 hx hA hy h0 h1
theorem ix31 {N : Nat} {ρ : Nat → Value} {w : World} {ty b o n c : Nat} {A : Option Addr} {x y : Operand} {k : IntKind} {i : Int} (hx : Ev N ρ x (.slice A n c)) (hA : A = some ⟨b, o, none⟩) (hy : Ev N ρ y (.int k i)) (h0 : 0 ≤ i) (h1 : i < n) : Ex Tryd.prog N ρ w (.indexAddr 31 x y) ty (.pointer (some ⟨b, o + i.toNat * 1, none⟩)) w := by
  obtain ⟨i0, e1, _, e3, _⟩ := inf3
  subst hA
  have := x_indexAddr (ty := ty) (w := w) Tryd.underlying31 e1 hx hy h0 h1
  rwa [add_none, e3] at this
theorem ixo31 {N : Nat} {ρ : Nat → Value} {w : World} {ty b o o' n c : Nat} {A : Option Addr} {x y : Operand} {k : IntKind} {i : Int} (hx : Ev N ρ x (.slice A n c)) (hA : A = some ⟨b, o, none⟩) (hy : Ev N ρ y (.int k i)) (h0 : 0 ≤ i) (h1 : i < n) (ho : o + i.toNat * 1 = o') : Ex Tryd.prog N ρ w (.indexAddr 31 x y) ty (.pointer (some ⟨b, o', none⟩)) w := by
  subst ho
  exact ix31 hx hA hy h0 h1
theorem ix32 {N : Nat} {ρ : Nat → Value} {w : World} {ty b o n c : Nat} {A : Option Addr} {x y : Operand} {k : IntKind} {i : Int} (hx : Ev N ρ x (.slice A n c)) (hA : A = some ⟨b, o, none⟩) (hy : Ev N ρ y (.int k i)) (h0 : 0 ≤ i) (h1 : i < n) : Ex Tryd.prog N ρ w (.indexAddr 32 x y) ty (.pointer (some ⟨b, o + i.toNat * 1, none⟩)) w := by
  obtain ⟨i0, e1, _, e3, _⟩ := inf30
  subst hA
  have := x_indexAddr (ty := ty) (w := w) Tryd.underlying32 e1 hx hy h0 h1
  rwa [add_none, e3] at this
theorem ixo32 {N : Nat} {ρ : Nat → Value} {w : World} {ty b o o' n c : Nat} {A : Option Addr} {x y : Operand} {k : IntKind} {i : Int} (hx : Ev N ρ x (.slice A n c)) (hA : A = some ⟨b, o, none⟩) (hy : Ev N ρ y (.int k i)) (h0 : 0 ≤ i) (h1 : i < n) (ho : o + i.toNat * 1 = o') : Ex Tryd.prog N ρ w (.indexAddr 32 x y) ty (.pointer (some ⟨b, o', none⟩)) w := by
  subst ho
  exact ix32 hx hA hy h0 h1
theorem ix36 {N : Nat} {ρ : Nat → Value} {w : World} {ty b o n c : Nat} {A : Option Addr} {x y : Operand} {k : IntKind} {i : Int} (hx : Ev N ρ x (.slice A n c)) (hA : A = some ⟨b, o, none⟩) (hy : Ev N ρ y (.int k i)) (h0 : 0 ≤ i) (h1 : i < n) : Ex Tryd.prog N ρ w (.indexAddr 36 x y) ty (.pointer (some ⟨b, o + i.toNat * 1, none⟩)) w := by
  obtain ⟨i0, e1, _, e3, _⟩ := inf41
  subst hA
  have := x_indexAddr (ty := ty) (w := w) Tryd.underlying36 e1 hx hy h0 h1
  rwa [add_none, e3] at this
theorem ixo36 {N : Nat} {ρ : Nat → Value} {w : World} {ty b o o' n c : Nat} {A : Option Addr} {x y : Operand} {k : IntKind} {i : Int} (hx : Ev N ρ x (.slice A n c)) (hA : A = some ⟨b, o, none⟩) (hy : Ev N ρ y (.int k i)) (h0 : 0 ≤ i) (h1 : i < n) (ho : o + i.toNat * 1 = o') : Ex Tryd.prog N ρ w (.indexAddr 36 x y) ty (.pointer (some ⟨b, o', none⟩)) w := by
  subst ho
  exact ix36 hx hA hy h0 h1
theorem ix38 {N : Nat} {ρ : Nat → Value} {w : World} {ty b o n c : Nat} {A : Option Addr} {x y : Operand} {k : IntKind} {i : Int} (hx : Ev N ρ x (.slice A n c)) (hA : A = some ⟨b, o, none⟩) (hy : Ev N ρ y (.int k i)) (h0 : 0 ≤ i) (h1 : i < n) : Ex Tryd.prog N ρ w (.indexAddr 38 x y) ty (.pointer (some ⟨b, o + i.toNat * 4, none⟩)) w := by
  obtain ⟨i0, e1, _, e3, _⟩ := inf67
  subst hA
  have := x_indexAddr (ty := ty) (w := w) Tryd.underlying38 e1 hx hy h0 h1
  rwa [add_none, e3] at this
theorem ixo38 {N : Nat} {ρ : Nat → Value} {w : World} {ty b o o' n c : Nat} {A : Option Addr} {x y : Operand} {k : IntKind} {i : Int} (hx : Ev N ρ x (.slice A n c)) (hA : A = some ⟨b, o, none⟩) (hy : Ev N ρ y (.int k i)) (h0 : 0 ≤ i) (h1 : i < n) (ho : o + i.toNat * 4 = o') : Ex Tryd.prog N ρ w (.indexAddr 38 x y) ty (.pointer (some ⟨b, o', none⟩)) w := by
  subst ho
  exact ix38 hx hA hy h0 h1
theorem ix41 {N : Nat} {ρ : Nat → Value} {w : World} {ty b o n c : Nat} {A : Option Addr} {x y : Operand} {k : IntKind} {i : Int} (hx : Ev N ρ x (.slice A n c)) (hA : A = some ⟨b, o, none⟩) (hy : Ev N ρ y (.int k i)) (h0 : 0 ≤ i) (h1 : i < n) : Ex Tryd.prog N ρ w (.indexAddr 41 x y) ty (.pointer (some ⟨b, o + i.toNat * 6, none⟩)) w := by
  obtain ⟨i0, e1, _, e3, _⟩ := inf49
  subst hA
  have := x_indexAddr (ty := ty) (w := w) Tryd.underlying41 e1 hx hy h0 h1
  rwa [add_none, e3] at this
theorem ixo41 {N : Nat} {ρ : Nat → Value} {w : World} {ty b o o' n c : Nat} {A : Option Addr} {x y : Operand} {k : IntKind} {i : Int} (hx : Ev N ρ x (.slice A n c)) (hA : A = some ⟨b, o, none⟩) (hy : Ev N ρ y (.int k i)) (h0 : 0 ≤ i) (h1 : i < n) (ho : o + i.toNat * 6 = o') : Ex Tryd.prog N ρ w (.indexAddr 41 x y) ty (.pointer (some ⟨b, o', none⟩)) w := by
  subst ho
  exact ix41 hx hA hy h0 h1
theorem ix58 {N : Nat} {ρ : Nat → Value} {w : World} {ty b o n c : Nat} {A : Option Addr} {x y : Operand} {k : IntKind} {i : Int} (hx : Ev N ρ x (.slice A n c)) (hA : A = some ⟨b, o, none⟩) (hy : Ev N ρ y (.int k i)) (h0 : 0 ≤ i) (h1 : i < n) : Ex Tryd.prog N ρ w (.indexAddr 58 x y) ty (.pointer (some ⟨b, o + i.toNat * 9, none⟩)) w := by
  obtain ⟨i0, e1, _, e3, _⟩ := inf62
  subst hA
  have := x_indexAddr (ty := ty) (w := w) Tryd.underlying58 e1 hx hy h0 h1
  rwa [add_none, e3] at this
theorem ixo58 {N : Nat} {ρ : Nat → Value} {w : World} {ty b o o' n c : Nat} {A : Option Addr} {x y : Operand} {k : IntKind} {i : Int} (hx : Ev N ρ x (.slice A n c)) (hA : A = some ⟨b, o, none⟩) (hy : Ev N ρ y (.int k i)) (h0 : 0 ≤ i) (h1 : i < n) (ho : o + i.toNat * 9 = o') : Ex Tryd.prog N ρ w (.indexAddr 58 x y) ty (.pointer (some ⟨b, o', none⟩)) w := by
  subst ho
  exact ix58 hx hA hy h0 h1
theorem ix65 {N : Nat} {ρ : Nat → Value} {w : World} {ty b o n c : Nat} {A : Option Addr} {x y : Operand} {k : IntKind} {i : Int} (hx : Ev N ρ x (.slice A n c)) (hA : A = some ⟨b, o, none⟩) (hy : Ev N ρ y (.int k i)) (h0 : 0 ≤ i) (h1 : i < n) : Ex Tryd.prog N ρ w (.indexAddr 65 x y) ty (.pointer (some ⟨b, o + i.toNat * 2, none⟩)) w := by
  obtain ⟨i0, e1, _, e3, _⟩ := inf69
  subst hA
  have := x_indexAddr (ty := ty) (w := w) Tryd.underlying65 e1 hx hy h0 h1
  rwa [add_none, e3] at this
theorem ixo65 {N : Nat} {ρ : Nat → Value} {w : World} {ty b o o' n c : Nat} {A : Option Addr} {x y : Operand} {k : IntKind} {i : Int} (hx : Ev N ρ x (.slice A n c)) (hA : A = some ⟨b, o, none⟩) (hy : Ev N ρ y (.int k i)) (h0 : 0 ≤ i) (h1 : i < n) (ho : o + i.toNat * 2 = o') : Ex Tryd.prog N ρ w (.indexAddr 65 x y) ty (.pointer (some ⟨b, o', none⟩)) w := by
  subst ho
  exact ix65 hx hA hy h0 h1
theorem ix73 {N : Nat} {ρ : Nat → Value} {w : World} {ty b o : Nat} {x y : Operand} {k : IntKind} {i : Int} (hx : Ev N ρ x (.pointer (some ⟨b, o, none⟩))) (hy : Ev N ρ y (.int k i)) (h0 : 0 ≤ i) (h1 : i < 16) : Ex Tryd.prog N ρ w (.indexAddr 73 x y) ty (.pointer (some ⟨b, o + i.toNat * 1, none⟩)) w := by
  obtain ⟨i0, e1, _, e3, _⟩ := inf3
  have := x_indexAddrArr (ty := ty) (w := w) (n := 16) Tryd.underlying73 e1 hx hy h0 h1
  rwa [add_none, e3] at this
theorem ixo73 {N : Nat} {ρ : Nat → Value} {w : World} {ty b o o' : Nat} {x y : Operand} {k : IntKind} {i : Int} (hx : Ev N ρ x (.pointer (some ⟨b, o, none⟩))) (hy : Ev N ρ y (.int k i)) (h0 : 0 ≤ i) (h1 : i < 16) (ho : o + i.toNat * 1 = o') : Ex Tryd.prog N ρ w (.indexAddr 73 x y) ty (.pointer (some ⟨b, o', none⟩)) w := by
  subst ho
  exact ix73 hx hy h0 h1
theorem ix79 {N : Nat} {ρ : Nat → Value} {w : World} {ty b o n c : Nat} {A : Option Addr} {x y : Operand} {k : IntKind} {i : Int} (hx : Ev N ρ x (.slice A n c)) (hA : A = some ⟨b, o, none⟩) (hy : Ev N ρ y (.int k i)) (h0 : 0 ≤ i) (h1 : i < n) : Ex Tryd.prog N ρ w (.indexAddr 79 x y) ty (.pointer (some ⟨b, o + i.toNat * 3, none⟩)) w := by
  obtain ⟨i0, e1, _, e3, _⟩ := inf47
  subst hA
  have := x_indexAddr (ty := ty) (w := w) Tryd.underlying79 e1 hx hy h0 h1
  rwa [add_none, e3] at this
theorem ixo79 {N : Nat} {ρ : Nat → Value} {w : World} {ty b o o' n c : Nat} {A : Option Addr} {x y : Operand} {k : IntKind} {i : Int} (hx : Ev N ρ x (.slice A n c)) (hA : A = some ⟨b, o, none⟩) (hy : Ev N ρ y (.int k i)) (h0 : 0 ≤ i) (h1 : i < n) (ho : o + i.toNat * 3 = o') : Ex Tryd.prog N ρ w (.indexAddr 79 x y) ty (.pointer (some ⟨b, o', none⟩)) w := by
  subst ho
  exact ix79 hx hA hy h0 h1
theorem ix94 {N : Nat} {ρ : Nat → Value} {w : World} {ty b o : Nat} {x y : Operand} {k : IntKind} {i : Int} (hx : Ev N ρ x (.pointer (some ⟨b, o, none⟩))) (hy : Ev N ρ y (.int k i)) (h0 : 0 ≤ i) (h1 : i < 32) : Ex Tryd.prog N ρ w (.indexAddr 94 x y) ty (.pointer (some ⟨b, o + i.toNat * 1, none⟩)) w := by
  obtain ⟨i0, e1, _, e3, _⟩ := inf5
  have := x_indexAddrArr (ty := ty) (w := w) (n := 32) Tryd.underlying94 e1 hx hy h0 h1
  rwa [add_none, e3] at this
theorem ixo94 {N : Nat} {ρ : Nat → Value} {w : World} {ty b o o' : Nat} {x y : Operand} {k : IntKind} {i : Int} (hx : Ev N ρ x (.pointer (some ⟨b, o, none⟩))) (hy : Ev N ρ y (.int k i)) (h0 : 0 ≤ i) (h1 : i < 32) (ho : o + i.toNat * 1 = o') : Ex Tryd.prog N ρ w (.indexAddr 94 x y) ty (.pointer (some ⟨b, o', none⟩)) w := by
  subst ho
  exact ix94 hx hy h0 h1
theorem ix100 {N : Nat} {ρ : Nat → Value} {w : World} {ty b o : Nat} {x y : Operand} {k : IntKind} {i : Int} (hx : Ev N ρ x (.pointer (some ⟨b, o, none⟩))) (hy : Ev N ρ y (.int k i)) (h0 : 0 ≤ i) (h1 : i < 0) : Ex Tryd.prog N ρ w (.indexAddr 100 x y) ty (.pointer (some ⟨b, o + i.toNat * 1, none⟩)) w := by
  obtain ⟨i0, e1, _, e3, _⟩ := inf16
  have := x_indexAddrArr (ty := ty) (w := w) (n := 0) Tryd.underlying100 e1 hx hy h0 h1
  rwa [add_none, e3] at this
theorem ixo100 {N : Nat} {ρ : Nat → Value} {w : World} {ty b o o' : Nat} {x y : Operand} {k : IntKind} {i : Int} (hx : Ev N ρ x (.pointer (some ⟨b, o, none⟩))) (hy : Ev N ρ y (.int k i)) (h0 : 0 ≤ i) (h1 : i < 0) (ho : o + i.toNat * 1 = o') : Ex Tryd.prog N ρ w (.indexAddr 100 x y) ty (.pointer (some ⟨b, o', none⟩)) w := by
  subst ho
  exact ix100 hx hy h0 h1
theorem bl7 {N : Nat} {ρ : Nat → Value} {w : World} {ty : Nat} {parts : List (Nat × Operand)} {ps : List (Nat × Value)} {cs : List Value} (hps : Evp N ρ parts ps) (hf : fillL (([(0, 1), (1, 1), (2, 1), (3, 1)] : List (Nat × Nat))[·]?) [.int .i64 0, .int .i64 0, .bool false, .int .u8 0] ps = some cs) : Ex Tryd.prog N ρ w (.build 7 parts.toArray) ty (.agg cs.toArray) w :=
  x_bld (places := [(0, 1), (1, 1), (2, 1), (3, 1)]) Tryd.underlying7 inf7 hps (by kernel_rfl) hf
theorem bl8 {N : Nat} {ρ : Nat → Value} {w : World} {ty : Nat} {parts : List (Nat × Operand)} {ps : List (Nat × Value)} {cs : List Value} (hps : Evp N ρ parts ps) (hf : fillL (([(0, 1), (1, 1), (2, 1), (3, 1)] : List (Nat × Nat))[·]?) [.int .i64 0, .int .i64 0, .bool false, .int .u8 0] ps = some cs) : Ex Tryd.prog N ρ w (.build 8 parts.toArray) ty (.agg cs.toArray) w :=
  x_bld (places := [(0, 1), (1, 1), (2, 1), (3, 1)]) Tryd.underlying8 inf8 hps (by kernel_rfl) hf
theorem bl13 {N : Nat} {ρ : Nat → Value} {w : World} {ty : Nat} {parts : List (Nat × Operand)} {ps : List (Nat × Value)} {cs : List Value} (hps : Evp N ρ parts ps) (hf : fillL (([(0, 1), (1, 1)] : List (Nat × Nat))[·]?) [.string (⟨#[]⟩), .int .u64 0] ps = some cs) : Ex Tryd.prog N ρ w (.build 13 parts.toArray) ty (.agg cs.toArray) w :=
  x_bld (places := [(0, 1), (1, 1)]) Tryd.underlying13 inf13 hps (by kernel_rfl) hf
theorem bl14 {N : Nat} {ρ : Nat → Value} {w : World} {ty : Nat} {parts : List (Nat × Operand)} {ps : List (Nat × Value)} {cs : List Value} (hps : Evp N ρ parts ps) (hf : fillL (([(0, 1), (1, 1)] : List (Nat × Nat))[·]?) [.string (⟨#[]⟩), .int .u64 0] ps = some cs) : Ex Tryd.prog N ρ w (.build 14 parts.toArray) ty (.agg cs.toArray) w :=
  x_bld (places := [(0, 1), (1, 1)]) Tryd.underlying14 inf14 hps (by kernel_rfl) hf
theorem bl18 {N : Nat} {ρ : Nat → Value} {w : World} {ty : Nat} {parts : List (Nat × Operand)} {ps : List (Nat × Value)} {cs : List Value} (hps : Evp N ρ parts ps) (hf : fillL (([(0, 1)] : List (Nat × Nat))[·]?) [.pointer none] ps = some cs) : Ex Tryd.prog N ρ w (.build 18 parts.toArray) ty (.agg cs.toArray) w :=
  x_bld (places := [(0, 1)]) Tryd.underlying18 inf18 hps (by kernel_rfl) hf
theorem bl19 {N : Nat} {ρ : Nat → Value} {w : World} {ty : Nat} {parts : List (Nat × Operand)} {ps : List (Nat × Value)} {cs : List Value} (hps : Evp N ρ parts ps) (hf : fillL (([(0, 1)] : List (Nat × Nat))[·]?) [.pointer none] ps = some cs) : Ex Tryd.prog N ρ w (.build 19 parts.toArray) ty (.agg cs.toArray) w :=
  x_bld (places := [(0, 1)]) Tryd.underlying19 inf19 hps (by kernel_rfl) hf
theorem bl33 {N : Nat} {ρ : Nat → Value} {w : World} {ty : Nat} {parts : List (Nat × Operand)} {ps : List (Nat × Value)} {cs : List Value} (hps : Evp N ρ parts ps) (hf : fillL (([(0, 1), (1, 1)] : List (Nat × Nat))[·]?) [.int .i64 0, .slice none 0 0] ps = some cs) : Ex Tryd.prog N ρ w (.build 33 parts.toArray) ty (.agg cs.toArray) w :=
  x_bld (places := [(0, 1), (1, 1)]) Tryd.underlying33 inf33 hps (by kernel_rfl) hf
theorem bl34 {N : Nat} {ρ : Nat → Value} {w : World} {ty : Nat} {parts : List (Nat × Operand)} {ps : List (Nat × Value)} {cs : List Value} (hps : Evp N ρ parts ps) (hf : fillL (([(0, 1), (1, 1)] : List (Nat × Nat))[·]?) [.int .i64 0, .slice none 0 0] ps = some cs) : Ex Tryd.prog N ρ w (.build 34 parts.toArray) ty (.agg cs.toArray) w :=
  x_bld (places := [(0, 1), (1, 1)]) Tryd.underlying34 inf34 hps (by kernel_rfl) hf
theorem bl43 {N : Nat} {ρ : Nat → Value} {w : World} {ty : Nat} {parts : List (Nat × Operand)} {ps : List (Nat × Value)} {cs : List Value} (hps : Evp N ρ parts ps) (hf : fillL (([(0, 1), (1, 1)] : List (Nat × Nat))[·]?) [.int .u64 0, .int .i64 0] ps = some cs) : Ex Tryd.prog N ρ w (.build 43 parts.toArray) ty (.agg cs.toArray) w :=
  x_bld (places := [(0, 1), (1, 1)]) Tryd.underlying43 inf43 hps (by kernel_rfl) hf
theorem bl44 {N : Nat} {ρ : Nat → Value} {w : World} {ty : Nat} {parts : List (Nat × Operand)} {ps : List (Nat × Value)} {cs : List Value} (hps : Evp N ρ parts ps) (hf : fillL (([(0, 1), (1, 1)] : List (Nat × Nat))[·]?) [.int .u64 0, .int .i64 0] ps = some cs) : Ex Tryd.prog N ρ w (.build 44 parts.toArray) ty (.agg cs.toArray) w :=
  x_bld (places := [(0, 1), (1, 1)]) Tryd.underlying44 inf44 hps (by kernel_rfl) hf
theorem bl46 {N : Nat} {ρ : Nat → Value} {w : World} {ty : Nat} {parts : List (Nat × Operand)} {ps : List (Nat × Value)} {cs : List Value} (hps : Evp N ρ parts ps) (hf : fillL (([(0, 2), (2, 1)] : List (Nat × Nat))[·]?) [.int .u64 0, .int .i64 0, .int .u16 0] ps = some cs) : Ex Tryd.prog N ρ w (.build 46 parts.toArray) ty (.agg cs.toArray) w :=
  x_bld (places := [(0, 2), (2, 1)]) Tryd.underlying46 inf46 hps (by kernel_rfl) hf
theorem bl47 {N : Nat} {ρ : Nat → Value} {w : World} {ty : Nat} {parts : List (Nat × Operand)} {ps : List (Nat × Value)} {cs : List Value} (hps : Evp N ρ parts ps) (hf : fillL (([(0, 2), (2, 1)] : List (Nat × Nat))[·]?) [.int .u64 0, .int .i64 0, .int .u16 0] ps = some cs) : Ex Tryd.prog N ρ w (.build 47 parts.toArray) ty (.agg cs.toArray) w :=
  x_bld (places := [(0, 2), (2, 1)]) Tryd.underlying47 inf47 hps (by kernel_rfl) hf
theorem bl48 {N : Nat} {ρ : Nat → Value} {w : World} {ty : Nat} {parts : List (Nat × Operand)} {ps : List (Nat × Value)} {cs : List Value} (hps : Evp N ρ parts ps) (hf : fillL (([(0, 1), (1, 3), (4, 1), (5, 1)] : List (Nat × Nat))[·]?) [.int .u8 0, .int .u64 0, .int .i64 0, .int .u16 0, .int .i64 0, .slice none 0 0] ps = some cs) : Ex Tryd.prog N ρ w (.build 48 parts.toArray) ty (.agg cs.toArray) w :=
  x_bld (places := [(0, 1), (1, 3), (4, 1), (5, 1)]) Tryd.underlying48 inf48 hps (by kernel_rfl) hf
theorem bl49 {N : Nat} {ρ : Nat → Value} {w : World} {ty : Nat} {parts : List (Nat × Operand)} {ps : List (Nat × Value)} {cs : List Value} (hps : Evp N ρ parts ps) (hf : fillL (([(0, 1), (1, 3), (4, 1), (5, 1)] : List (Nat × Nat))[·]?) [.int .u8 0, .int .u64 0, .int .i64 0, .int .u16 0, .int .i64 0, .slice none 0 0] ps = some cs) : Ex Tryd.prog N ρ w (.build 49 parts.toArray) ty (.agg cs.toArray) w :=
  x_bld (places := [(0, 1), (1, 3), (4, 1), (5, 1)]) Tryd.underlying49 inf49 hps (by kernel_rfl) hf
theorem bl61 {N : Nat} {ρ : Nat → Value} {w : World} {ty : Nat} {parts : List (Nat × Operand)} {ps : List (Nat × Value)} {cs : List Value} (hps : Evp N ρ parts ps) (hf : fillL (([(0, 1), (1, 3), (4, 1), (5, 1), (6, 1), (7, 2)] : List (Nat × Nat))[·]?) [.int .i64 0, .int .u64 0, .int .i64 0, .int .u16 0, .slice none 0 0, .slice none 0 0, .int .i64 0, .int .u64 0, .int .i64 0] ps = some cs) : Ex Tryd.prog N ρ w (.build 61 parts.toArray) ty (.agg cs.toArray) w :=
  x_bld (places := [(0, 1), (1, 3), (4, 1), (5, 1), (6, 1), (7, 2)]) Tryd.underlying61 inf61 hps (by kernel_rfl) hf
theorem bl62 {N : Nat} {ρ : Nat → Value} {w : World} {ty : Nat} {parts : List (Nat × Operand)} {ps : List (Nat × Value)} {cs : List Value} (hps : Evp N ρ parts ps) (hf : fillL (([(0, 1), (1, 3), (4, 1), (5, 1), (6, 1), (7, 2)] : List (Nat × Nat))[·]?) [.int .i64 0, .int .u64 0, .int .i64 0, .int .u16 0, .slice none 0 0, .slice none 0 0, .int .i64 0, .int .u64 0, .int .i64 0] ps = some cs) : Ex Tryd.prog N ρ w (.build 62 parts.toArray) ty (.agg cs.toArray) w :=
  x_bld (places := [(0, 1), (1, 3), (4, 1), (5, 1), (6, 1), (7, 2)]) Tryd.underlying62 inf62 hps (by kernel_rfl) hf
theorem bl66 {N : Nat} {ρ : Nat → Value} {w : World} {ty : Nat} {parts : List (Nat × Operand)} {ps : List (Nat × Value)} {cs : List Value} (hps : Evp N ρ parts ps) (hf : fillL (([(0, 1), (1, 1), (2, 1), (3, 1)] : List (Nat × Nat))[·]?) [.int .u16 0, .slice none 0 0, .slice none 0 0, .slice none 0 0] ps = some cs) : Ex Tryd.prog N ρ w (.build 66 parts.toArray) ty (.agg cs.toArray) w :=
  x_bld (places := [(0, 1), (1, 1), (2, 1), (3, 1)]) Tryd.underlying66 inf66 hps (by kernel_rfl) hf
theorem bl67 {N : Nat} {ρ : Nat → Value} {w : World} {ty : Nat} {parts : List (Nat × Operand)} {ps : List (Nat × Value)} {cs : List Value} (hps : Evp N ρ parts ps) (hf : fillL (([(0, 1), (1, 1), (2, 1), (3, 1)] : List (Nat × Nat))[·]?) [.int .u16 0, .slice none 0 0, .slice none 0 0, .slice none 0 0] ps = some cs) : Ex Tryd.prog N ρ w (.build 67 parts.toArray) ty (.agg cs.toArray) w :=
  x_bld (places := [(0, 1), (1, 1), (2, 1), (3, 1)]) Tryd.underlying67 inf67 hps (by kernel_rfl) hf
theorem bl68 {N : Nat} {ρ : Nat → Value} {w : World} {ty : Nat} {parts : List (Nat × Operand)} {ps : List (Nat × Value)} {cs : List Value} (hps : Evp N ρ parts ps) (hf : fillL (([(0, 1), (1, 1)] : List (Nat × Nat))[·]?) [.int .u8 0, .slice none 0 0] ps = some cs) : Ex Tryd.prog N ρ w (.build 68 parts.toArray) ty (.agg cs.toArray) w :=
  x_bld (places := [(0, 1), (1, 1)]) Tryd.underlying68 inf68 hps (by kernel_rfl) hf
theorem bl69 {N : Nat} {ρ : Nat → Value} {w : World} {ty : Nat} {parts : List (Nat × Operand)} {ps : List (Nat × Value)} {cs : List Value} (hps : Evp N ρ parts ps) (hf : fillL (([(0, 1), (1, 1)] : List (Nat × Nat))[·]?) [.int .u8 0, .slice none 0 0] ps = some cs) : Ex Tryd.prog N ρ w (.build 69 parts.toArray) ty (.agg cs.toArray) w :=
  x_bld (places := [(0, 1), (1, 1)]) Tryd.underlying69 inf69 hps (by kernel_rfl) hf
theorem bl98 {N : Nat} {ρ : Nat → Value} {w : World} {ty : Nat} {parts : List (Nat × Operand)} {ps : List (Nat × Value)} {cs : List Value} (hps : Evp N ρ parts ps) (hf : fillL (([(0, 1), (1, 1), (2, 1), (3, 1)] : List (Nat × Nat))[·]?) [.pointer none, .pointer none, .pointer none, .string (⟨#[]⟩)] ps = some cs) : Ex Tryd.prog N ρ w (.build 98 parts.toArray) ty (.agg cs.toArray) w :=
  x_bld (places := [(0, 1), (1, 1), (2, 1), (3, 1)]) Tryd.underlying98 inf98 hps (by kernel_rfl) hf
theorem bl99 {N : Nat} {ρ : Nat → Value} {w : World} {ty : Nat} {parts : List (Nat × Operand)} {ps : List (Nat × Value)} {cs : List Value} (hps : Evp N ρ parts ps) (hf : fillL (([(0, 1), (1, 1), (2, 1), (3, 1)] : List (Nat × Nat))[·]?) [.pointer none, .pointer none, .pointer none, .string (⟨#[]⟩)] ps = some cs) : Ex Tryd.prog N ρ w (.build 99 parts.toArray) ty (.agg cs.toArray) w :=
  x_bld (places := [(0, 1), (1, 1), (2, 1), (3, 1)]) Tryd.underlying99 inf99 hps (by kernel_rfl) hf
theorem eqs7 (d : Nat) (w : World) (x0 y0 : Int) (x1 y1 : Int) (x2 y2 : Bool) (x3 y3 : Int) : (Op.equalIn (d + 2) 7 (.agg #[.int .i64 x0, .int .i64 x1, .bool x2, .int .u8 x3]) (.agg #[.int .i64 y0, .int .i64 y1, .bool y2, .int .u8 y3])).run Tryd.prog w = .ok (((x0 == y0) && ((x1 == y1) && ((x2 == y2) && ((x3 == y3) && true))))) w := by
  exact eq_struct (d := d + 1) Tryd.underlying7 (by kernel_rfl) (.cons (by kernel_rfl) (part_one (by kernel_rfl) rfl) (part_one (by kernel_rfl) rfl) (eq_int' (d := d + 0) Tryd.underlying2 _ _) (.cons (by kernel_rfl) (part_one (by kernel_rfl) rfl) (part_one (by kernel_rfl) rfl) (eq_int' (d := d + 0) Tryd.underlying3 _ _) (.cons (by kernel_rfl) (part_one (by kernel_rfl) rfl) (part_one (by kernel_rfl) rfl) (eq_bool' (d := d + 0) Tryd.underlying4 _ _) (.cons (by kernel_rfl) (part_one (by kernel_rfl) rfl) (part_one (by kernel_rfl) rfl) (eq_int' (d := d + 0) Tryd.underlying6 _ _) EqF.nil))))
theorem eqg7 : Tryd.prog.eqGuardType Tryd.prog.depth 7 = false := by kernel_rfl
theorem eqs8 (d : Nat) (w : World) (x0 y0 : Int) (x1 y1 : Int) (x2 y2 : Bool) (x3 y3 : Int) : (Op.equalIn (d + 2) 8 (.agg #[.int .i64 x0, .int .i64 x1, .bool x2, .int .u8 x3]) (.agg #[.int .i64 y0, .int .i64 y1, .bool y2, .int .u8 y3])).run Tryd.prog w = .ok (((x0 == y0) && ((x1 == y1) && ((x2 == y2) && ((x3 == y3) && true))))) w := by
  exact eq_struct (d := d + 1) Tryd.underlying8 (by kernel_rfl) (.cons (by kernel_rfl) (part_one (by kernel_rfl) rfl) (part_one (by kernel_rfl) rfl) (eq_int' (d := d + 0) Tryd.underlying2 _ _) (.cons (by kernel_rfl) (part_one (by kernel_rfl) rfl) (part_one (by kernel_rfl) rfl) (eq_int' (d := d + 0) Tryd.underlying3 _ _) (.cons (by kernel_rfl) (part_one (by kernel_rfl) rfl) (part_one (by kernel_rfl) rfl) (eq_bool' (d := d + 0) Tryd.underlying4 _ _) (.cons (by kernel_rfl) (part_one (by kernel_rfl) rfl) (part_one (by kernel_rfl) rfl) (eq_int' (d := d + 0) Tryd.underlying6 _ _) EqF.nil))))
theorem eqg8 : Tryd.prog.eqGuardType Tryd.prog.depth 8 = false := by kernel_rfl
theorem eqs43 (d : Nat) (w : World) (x0 y0 : Int) (x1 y1 : Int) : (Op.equalIn (d + 2) 43 (.agg #[.int .u64 x0, .int .i64 x1]) (.agg #[.int .u64 y0, .int .i64 y1])).run Tryd.prog w = .ok (((x0 == y0) && ((x1 == y1) && true))) w := by
  exact eq_struct (d := d + 1) Tryd.underlying43 (by kernel_rfl) (.cons (by kernel_rfl) (part_one (by kernel_rfl) rfl) (part_one (by kernel_rfl) rfl) (eq_int' (d := d + 0) Tryd.underlying42 _ _) (.cons (by kernel_rfl) (part_one (by kernel_rfl) rfl) (part_one (by kernel_rfl) rfl) (eq_int' (d := d + 0) Tryd.underlying3 _ _) EqF.nil))
theorem eqg43 : Tryd.prog.eqGuardType Tryd.prog.depth 43 = false := by kernel_rfl
theorem eqs44 (d : Nat) (w : World) (x0 y0 : Int) (x1 y1 : Int) : (Op.equalIn (d + 2) 44 (.agg #[.int .u64 x0, .int .i64 x1]) (.agg #[.int .u64 y0, .int .i64 y1])).run Tryd.prog w = .ok (((x0 == y0) && ((x1 == y1) && true))) w := by
  exact eq_struct (d := d + 1) Tryd.underlying44 (by kernel_rfl) (.cons (by kernel_rfl) (part_one (by kernel_rfl) rfl) (part_one (by kernel_rfl) rfl) (eq_int' (d := d + 0) Tryd.underlying42 _ _) (.cons (by kernel_rfl) (part_one (by kernel_rfl) rfl) (part_one (by kernel_rfl) rfl) (eq_int' (d := d + 0) Tryd.underlying3 _ _) EqF.nil))
theorem eqg44 : Tryd.prog.eqGuardType Tryd.prog.depth 44 = false := by kernel_rfl
theorem eqs46 (d : Nat) (w : World) (x0 y0 : Int) (x1 y1 : Int) (x2 y2 : Int) : (Op.equalIn (d + 3) 46 (.agg #[.int .u64 x0, .int .i64 x1, .int .u16 x2]) (.agg #[.int .u64 y0, .int .i64 y1, .int .u16 y2])).run Tryd.prog w = .ok ((((x0 == y0) && ((x1 == y1) && true)) && ((x2 == y2) && true))) w := by
  exact eq_struct (d := d + 2) Tryd.underlying46 (by kernel_rfl) (.cons (by kernel_rfl) (part_agg (by kernel_rfl) inf44 rfl) (part_agg (by kernel_rfl) inf44 rfl) (eqs44 (d + 0) w _ _ _ _) (.cons (by kernel_rfl) (part_one (by kernel_rfl) rfl) (part_one (by kernel_rfl) rfl) (eq_int' (d := d + 1) Tryd.underlying45 _ _) EqF.nil))
theorem eqg46 : Tryd.prog.eqGuardType Tryd.prog.depth 46 = false := by kernel_rfl
theorem eqs47 (d : Nat) (w : World) (x0 y0 : Int) (x1 y1 : Int) (x2 y2 : Int) : (Op.equalIn (d + 3) 47 (.agg #[.int .u64 x0, .int .i64 x1, .int .u16 x2]) (.agg #[.int .u64 y0, .int .i64 y1, .int .u16 y2])).run Tryd.prog w = .ok ((((x0 == y0) && ((x1 == y1) && true)) && ((x2 == y2) && true))) w := by
  exact eq_struct (d := d + 2) Tryd.underlying47 (by kernel_rfl) (.cons (by kernel_rfl) (part_agg (by kernel_rfl) inf44 rfl) (part_agg (by kernel_rfl) inf44 rfl) (eqs44 (d + 0) w _ _ _ _) (.cons (by kernel_rfl) (part_one (by kernel_rfl) rfl) (part_one (by kernel_rfl) rfl) (eq_int' (d := d + 1) Tryd.underlying45 _ _) EqF.nil))
theorem eqg47 : Tryd.prog.eqGuardType Tryd.prog.depth 47 = false := by kernel_rfl
theorem cb3 : Cb Tryd.prog 3 := ⟨Tryd.f3, Tryd.func3, by kernel_rfl, by kernel_rfl⟩
theorem cb4 : Cb Tryd.prog 4 := ⟨Tryd.f4, Tryd.func4, by kernel_rfl, by kernel_rfl⟩
theorem cb5 : Cb Tryd.prog 5 := ⟨Tryd.f5, Tryd.func5, by kernel_rfl, by kernel_rfl⟩
theorem cb6 : Cb Tryd.prog 6 := ⟨Tryd.f6, Tryd.func6, by kernel_rfl, by kernel_rfl⟩
theorem cb7 : Cb Tryd.prog 7 := ⟨Tryd.f7, Tryd.func7, by kernel_rfl, by kernel_rfl⟩
theorem cb8 : Cb Tryd.prog 8 := ⟨Tryd.f8, Tryd.func8, by kernel_rfl, by kernel_rfl⟩
theorem cb9 : Cb Tryd.prog 9 := ⟨Tryd.f9, Tryd.func9, by kernel_rfl, by kernel_rfl⟩
theorem cb10 : Cb Tryd.prog 10 := ⟨Tryd.f10, Tryd.func10, by kernel_rfl, by kernel_rfl⟩
theorem cb11 : Cb Tryd.prog 11 := ⟨Tryd.f11, Tryd.func11, by kernel_rfl, by kernel_rfl⟩
theorem cb12 : Cb Tryd.prog 12 := ⟨Tryd.f12, Tryd.func12, by kernel_rfl, by kernel_rfl⟩
theorem cb13 : Cb Tryd.prog 13 := ⟨Tryd.f13, Tryd.func13, by kernel_rfl, by kernel_rfl⟩
theorem cb14 : Cb Tryd.prog 14 := ⟨Tryd.f14, Tryd.func14, by kernel_rfl, by kernel_rfl⟩
theorem cb15 : Cb Tryd.prog 15 := ⟨Tryd.f15, Tryd.func15, by kernel_rfl, by kernel_rfl⟩
theorem cb16 : Cb Tryd.prog 16 := ⟨Tryd.f16, Tryd.func16, by kernel_rfl, by kernel_rfl⟩
theorem cb17 : Cb Tryd.prog 17 := ⟨Tryd.f17, Tryd.func17, by kernel_rfl, by kernel_rfl⟩
theorem cb18 : Cb Tryd.prog 18 := ⟨Tryd.f18, Tryd.func18, by kernel_rfl, by kernel_rfl⟩
theorem cb19 : Cb Tryd.prog 19 := ⟨Tryd.f19, Tryd.func19, by kernel_rfl, by kernel_rfl⟩
theorem cb20 : Cb Tryd.prog 20 := ⟨Tryd.f20, Tryd.func20, by kernel_rfl, by kernel_rfl⟩
theorem cb21 : Cb Tryd.prog 21 := ⟨Tryd.f21, Tryd.func21, by kernel_rfl, by kernel_rfl⟩
theorem cb22 : Cb Tryd.prog 22 := ⟨Tryd.f22, Tryd.func22, by kernel_rfl, by kernel_rfl⟩
theorem cb23 : Cb Tryd.prog 23 := ⟨Tryd.f23, Tryd.func23, by kernel_rfl, by kernel_rfl⟩
theorem cb24 : Cb Tryd.prog 24 := ⟨Tryd.f24, Tryd.func24, by kernel_rfl, by kernel_rfl⟩
theorem cb25 : Cb Tryd.prog 25 := ⟨Tryd.f25, Tryd.func25, by kernel_rfl, by kernel_rfl⟩
theorem cb26 : Cb Tryd.prog 26 := ⟨Tryd.f26, Tryd.func26, by kernel_rfl, by kernel_rfl⟩
theorem cb27 : Cb Tryd.prog 27 := ⟨Tryd.f27, Tryd.func27, by kernel_rfl, by kernel_rfl⟩
theorem cb28 : Cb Tryd.prog 28 := ⟨Tryd.f28, Tryd.func28, by kernel_rfl, by kernel_rfl⟩
theorem cb29 : Cb Tryd.prog 29 := ⟨Tryd.f29, Tryd.func29, by kernel_rfl, by kernel_rfl⟩
theorem cb30 : Cb Tryd.prog 30 := ⟨Tryd.f30, Tryd.func30, by kernel_rfl, by kernel_rfl⟩
theorem cb31 : Cb Tryd.prog 31 := ⟨Tryd.f31, Tryd.func31, by kernel_rfl, by kernel_rfl⟩
theorem cb32 : Cb Tryd.prog 32 := ⟨Tryd.f32, Tryd.func32, by kernel_rfl, by kernel_rfl⟩
theorem cb33 : Cb Tryd.prog 33 := ⟨Tryd.f33, Tryd.func33, by kernel_rfl, by kernel_rfl⟩
theorem cb34 : Cb Tryd.prog 34 := ⟨Tryd.f34, Tryd.func34, by kernel_rfl, by kernel_rfl⟩
theorem cb35 : Cb Tryd.prog 35 := ⟨Tryd.f35, Tryd.func35, by kernel_rfl, by kernel_rfl⟩
theorem cb36 : Cb Tryd.prog 36 := ⟨Tryd.f36, Tryd.func36, by kernel_rfl, by kernel_rfl⟩
theorem cb37 : Cb Tryd.prog 37 := ⟨Tryd.f37, Tryd.func37, by kernel_rfl, by kernel_rfl⟩
theorem cb38 : Cb Tryd.prog 38 := ⟨Tryd.f38, Tryd.func38, by kernel_rfl, by kernel_rfl⟩
theorem cb39 : Cb Tryd.prog 39 := ⟨Tryd.f39, Tryd.func39, by kernel_rfl, by kernel_rfl⟩
theorem cb40 : Cb Tryd.prog 40 := ⟨Tryd.f40, Tryd.func40, by kernel_rfl, by kernel_rfl⟩
theorem cb41 : Cb Tryd.prog 41 := ⟨Tryd.f41, Tryd.func41, by kernel_rfl, by kernel_rfl⟩
theorem cb42 : Cb Tryd.prog 42 := ⟨Tryd.f42, Tryd.func42, by kernel_rfl, by kernel_rfl⟩
theorem cb43 : Cb Tryd.prog 43 := ⟨Tryd.f43, Tryd.func43, by kernel_rfl, by kernel_rfl⟩
theorem cb44 : Cb Tryd.prog 44 := ⟨Tryd.f44, Tryd.func44, by kernel_rfl, by kernel_rfl⟩
theorem cb45 : Cb Tryd.prog 45 := ⟨Tryd.f45, Tryd.func45, by kernel_rfl, by kernel_rfl⟩
theorem cb46 : Cb Tryd.prog 46 := ⟨Tryd.f46, Tryd.func46, by kernel_rfl, by kernel_rfl⟩
theorem cb47 : Cb Tryd.prog 47 := ⟨Tryd.f47, Tryd.func47, by kernel_rfl, by kernel_rfl⟩
theorem cb48 : Cb Tryd.prog 48 := ⟨Tryd.f48, Tryd.func48, by kernel_rfl, by kernel_rfl⟩
theorem cb49 : Cb Tryd.prog 49 := ⟨Tryd.f49, Tryd.func49, by kernel_rfl, by kernel_rfl⟩
theorem cb50 : Cb Tryd.prog 50 := ⟨Tryd.f50, Tryd.func50, by kernel_rfl, by kernel_rfl⟩
theorem cb51 : Cb Tryd.prog 51 := ⟨Tryd.f51, Tryd.func51, by kernel_rfl, by kernel_rfl⟩
theorem cb52 : Cb Tryd.prog 52 := ⟨Tryd.f52, Tryd.func52, by kernel_rfl, by kernel_rfl⟩
end Go.Proofs.YtnikcgcbkdeeeaaDoor
