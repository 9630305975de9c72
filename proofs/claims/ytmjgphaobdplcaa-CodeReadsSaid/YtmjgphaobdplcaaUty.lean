/- Facts on the types and functions of this seat, printed by gen.py. -/
import Derived.Test.YtmjgphaobdplcaaProg
import Derived.Test.YtmjgphaobdplcaaFmE
set_option linter.unusedVariables false
set_option linter.unusedSimpArgs false
namespace Go.Proofs.Ytmjgphaobdplcaa
open Go Go.FM Go.Proofs
set_option maxRecDepth 100000
theorem mixed : Try.prog.follows .mixedOrders = true := by kernel_rfl
theorem inf3 : Inf Try.prog 3 (.int .i64 0) 1 8 := Inf.mk (by kernel_rfl)
theorem inf4 : Inf Try.prog 4 (.bool false) 1 1 := Inf.mk (by kernel_rfl)
theorem inf5 : Inf Try.prog 5 (.int .u8 0) 1 1 := Inf.mk (by kernel_rfl)
theorem inf22 : Inf Try.prog 22 (.slice none 0 0) 1 24 := Inf.mk (by kernel_rfl)
theorem inf37 : Inf Try.prog 37 (.int .u64 0) 1 8 := Inf.mk (by kernel_rfl)
theorem inf50 : Inf Try.prog 50 (.agg #[.slice none 0 0, .int .i64 0]) 2 32 := Inf.mk (by kernel_rfl)
theorem inf52 : Inf Try.prog 52 (.agg #[.int .u8 0, .int .i64 0]) 2 16 := Inf.mk (by kernel_rfl)
theorem inf55 : Inf Try.prog 55 (.agg #[.int .u8 0, .int .u8 0, .int .u8 0, .int .u8 0]) 4 4 := Inf.mk (by kernel_rfl)
theorem inf58 : Inf Try.prog 58 (.agg #[.slice none 0 0, .bool false]) 2 32 := Inf.mk (by kernel_rfl)
theorem sc3 : scalarT Try.prog 3 = true := by kernel_rfl
theorem ld3 {N : Nat} {ρ : Nat → Value} {w : World} {ty : Nat} {x : Operand} {ad : Addr} {v : Value} (hx : Ev N ρ x (.pointer (some ad))) (hc : w.cell? ad = some v) : Ex Try.prog N ρ w (.load 3 x) ty v w := x_load sc3 hx hc
theorem sto3 {N : Nat} {ρ : Nat → Value} {H : Hp} {w : World} {L : List Res} {g T ty i : Nat} {x y : Operand} {cs cs' : List Value} {v : Value} (h : St H w (obj g T cs :: L)) (hx : Ev N ρ x (.pointer (some ⟨g, i, none⟩))) (hy : Ev N ρ y v) (hsz : v.cells.size = 1) (hl : i + 1 ≤ cs.length) (h1 : ∀ u ∈ v.cells.toList, u.oneCell' = true) (hsp : splice cs i v.cells.toList = cs') : ∃ w', Ex0 Try.prog N ρ w (.store 3 x y) ty w' ∧ St H w' (obj g T cs' :: L) := by
  obtain ⟨i0, e1, _, e3, _⟩ := inf3
  exact m_store e1 h hx hy (by rw [e3]; exact hsz) (by rw [e3]; exact hl) h1 hsp
theorem stor3 {N : Nat} {ρ : Nat → Value} {H : Hp} {w : World} {L : List Res} {g e size n cap ty i : Nat} {x y : Operand} {xs xs' : List Value} {v u : Value} (h : St H w (row e size v n xs :: L)) (hv : v = .slice (some ⟨g, 0, none⟩) n cap) (hx : Ev N ρ x (.pointer (some ⟨g, i, none⟩))) (hy : Ev N ρ y u) (hsz : u.cells.size = 1) (hl : i + 1 ≤ xs.length) (h1 : ∀ u' ∈ u.cells.toList, u'.oneCell' = true) (hsp : splice xs i u.cells.toList = xs') : ∃ w', Ex0 Try.prog N ρ w (.store 3 x y) ty w' ∧ St H w' (row e size v n xs' :: L) := by
  obtain ⟨i0, e1, _, e3, _⟩ := inf3
  exact m_storeRow e1 h hv hx hy (by rw [e3]; exact hsz) (by rw [e3]; exact hl) h1 hsp
theorem al3 {N : Nat} {ρ : Nat → Value} {H : Hp} {w : World} {L : List Res} {ty : Nat} {cs : List Value} (h : St H w L) (hv : (.int .i64 0 : Value).cells = cs.toArray) : ∃ v' w', Ex Try.prog N ρ w (.alloc 3) ty v' w' ∧ ∃ g, v' = .pointer (some ⟨g, 0, none⟩) ∧ St H w' (obj g 3 cs :: L) := by
  obtain ⟨i0, e1, e2, _, _⟩ := inf3
  exact m_alloc e1 e2 h hv
theorem sc4 : scalarT Try.prog 4 = true := by kernel_rfl
theorem ld4 {N : Nat} {ρ : Nat → Value} {w : World} {ty : Nat} {x : Operand} {ad : Addr} {v : Value} (hx : Ev N ρ x (.pointer (some ad))) (hc : w.cell? ad = some v) : Ex Try.prog N ρ w (.load 4 x) ty v w := x_load sc4 hx hc
theorem sto4 {N : Nat} {ρ : Nat → Value} {H : Hp} {w : World} {L : List Res} {g T ty i : Nat} {x y : Operand} {cs cs' : List Value} {v : Value} (h : St H w (obj g T cs :: L)) (hx : Ev N ρ x (.pointer (some ⟨g, i, none⟩))) (hy : Ev N ρ y v) (hsz : v.cells.size = 1) (hl : i + 1 ≤ cs.length) (h1 : ∀ u ∈ v.cells.toList, u.oneCell' = true) (hsp : splice cs i v.cells.toList = cs') : ∃ w', Ex0 Try.prog N ρ w (.store 4 x y) ty w' ∧ St H w' (obj g T cs' :: L) := by
  obtain ⟨i0, e1, _, e3, _⟩ := inf4
  exact m_store e1 h hx hy (by rw [e3]; exact hsz) (by rw [e3]; exact hl) h1 hsp
theorem stor4 {N : Nat} {ρ : Nat → Value} {H : Hp} {w : World} {L : List Res} {g e size n cap ty i : Nat} {x y : Operand} {xs xs' : List Value} {v u : Value} (h : St H w (row e size v n xs :: L)) (hv : v = .slice (some ⟨g, 0, none⟩) n cap) (hx : Ev N ρ x (.pointer (some ⟨g, i, none⟩))) (hy : Ev N ρ y u) (hsz : u.cells.size = 1) (hl : i + 1 ≤ xs.length) (h1 : ∀ u' ∈ u.cells.toList, u'.oneCell' = true) (hsp : splice xs i u.cells.toList = xs') : ∃ w', Ex0 Try.prog N ρ w (.store 4 x y) ty w' ∧ St H w' (row e size v n xs' :: L) := by
  obtain ⟨i0, e1, _, e3, _⟩ := inf4
  exact m_storeRow e1 h hv hx hy (by rw [e3]; exact hsz) (by rw [e3]; exact hl) h1 hsp
theorem al4 {N : Nat} {ρ : Nat → Value} {H : Hp} {w : World} {L : List Res} {ty : Nat} {cs : List Value} (h : St H w L) (hv : (.bool false : Value).cells = cs.toArray) : ∃ v' w', Ex Try.prog N ρ w (.alloc 4) ty v' w' ∧ ∃ g, v' = .pointer (some ⟨g, 0, none⟩) ∧ St H w' (obj g 4 cs :: L) := by
  obtain ⟨i0, e1, e2, _, _⟩ := inf4
  exact m_alloc e1 e2 h hv
theorem sc5 : scalarT Try.prog 5 = true := by kernel_rfl
theorem ld5 {N : Nat} {ρ : Nat → Value} {w : World} {ty : Nat} {x : Operand} {ad : Addr} {v : Value} (hx : Ev N ρ x (.pointer (some ad))) (hc : w.cell? ad = some v) : Ex Try.prog N ρ w (.load 5 x) ty v w := x_load sc5 hx hc
theorem sto5 {N : Nat} {ρ : Nat → Value} {H : Hp} {w : World} {L : List Res} {g T ty i : Nat} {x y : Operand} {cs cs' : List Value} {v : Value} (h : St H w (obj g T cs :: L)) (hx : Ev N ρ x (.pointer (some ⟨g, i, none⟩))) (hy : Ev N ρ y v) (hsz : v.cells.size = 1) (hl : i + 1 ≤ cs.length) (h1 : ∀ u ∈ v.cells.toList, u.oneCell' = true) (hsp : splice cs i v.cells.toList = cs') : ∃ w', Ex0 Try.prog N ρ w (.store 5 x y) ty w' ∧ St H w' (obj g T cs' :: L) := by
  obtain ⟨i0, e1, _, e3, _⟩ := inf5
  exact m_store e1 h hx hy (by rw [e3]; exact hsz) (by rw [e3]; exact hl) h1 hsp
theorem stor5 {N : Nat} {ρ : Nat → Value} {H : Hp} {w : World} {L : List Res} {g e size n cap ty i : Nat} {x y : Operand} {xs xs' : List Value} {v u : Value} (h : St H w (row e size v n xs :: L)) (hv : v = .slice (some ⟨g, 0, none⟩) n cap) (hx : Ev N ρ x (.pointer (some ⟨g, i, none⟩))) (hy : Ev N ρ y u) (hsz : u.cells.size = 1) (hl : i + 1 ≤ xs.length) (h1 : ∀ u' ∈ u.cells.toList, u'.oneCell' = true) (hsp : splice xs i u.cells.toList = xs') : ∃ w', Ex0 Try.prog N ρ w (.store 5 x y) ty w' ∧ St H w' (row e size v n xs' :: L) := by
  obtain ⟨i0, e1, _, e3, _⟩ := inf5
  exact m_storeRow e1 h hv hx hy (by rw [e3]; exact hsz) (by rw [e3]; exact hl) h1 hsp
theorem al5 {N : Nat} {ρ : Nat → Value} {H : Hp} {w : World} {L : List Res} {ty : Nat} {cs : List Value} (h : St H w L) (hv : (.int .u8 0 : Value).cells = cs.toArray) : ∃ v' w', Ex Try.prog N ρ w (.alloc 5) ty v' w' ∧ ∃ g, v' = .pointer (some ⟨g, 0, none⟩) ∧ St H w' (obj g 5 cs :: L) := by
  obtain ⟨i0, e1, e2, _, _⟩ := inf5
  exact m_alloc e1 e2 h hv
theorem sc22 : scalarT Try.prog 22 = true := by kernel_rfl
theorem ld22 {N : Nat} {ρ : Nat → Value} {w : World} {ty : Nat} {x : Operand} {ad : Addr} {v : Value} (hx : Ev N ρ x (.pointer (some ad))) (hc : w.cell? ad = some v) : Ex Try.prog N ρ w (.load 22 x) ty v w := x_load sc22 hx hc
theorem sto22 {N : Nat} {ρ : Nat → Value} {H : Hp} {w : World} {L : List Res} {g T ty i : Nat} {x y : Operand} {cs cs' : List Value} {v : Value} (h : St H w (obj g T cs :: L)) (hx : Ev N ρ x (.pointer (some ⟨g, i, none⟩))) (hy : Ev N ρ y v) (hsz : v.cells.size = 1) (hl : i + 1 ≤ cs.length) (h1 : ∀ u ∈ v.cells.toList, u.oneCell' = true) (hsp : splice cs i v.cells.toList = cs') : ∃ w', Ex0 Try.prog N ρ w (.store 22 x y) ty w' ∧ St H w' (obj g T cs' :: L) := by
  obtain ⟨i0, e1, _, e3, _⟩ := inf22
  exact m_store e1 h hx hy (by rw [e3]; exact hsz) (by rw [e3]; exact hl) h1 hsp
theorem stor22 {N : Nat} {ρ : Nat → Value} {H : Hp} {w : World} {L : List Res} {g e size n cap ty i : Nat} {x y : Operand} {xs xs' : List Value} {v u : Value} (h : St H w (row e size v n xs :: L)) (hv : v = .slice (some ⟨g, 0, none⟩) n cap) (hx : Ev N ρ x (.pointer (some ⟨g, i, none⟩))) (hy : Ev N ρ y u) (hsz : u.cells.size = 1) (hl : i + 1 ≤ xs.length) (h1 : ∀ u' ∈ u.cells.toList, u'.oneCell' = true) (hsp : splice xs i u.cells.toList = xs') : ∃ w', Ex0 Try.prog N ρ w (.store 22 x y) ty w' ∧ St H w' (row e size v n xs' :: L) := by
  obtain ⟨i0, e1, _, e3, _⟩ := inf22
  exact m_storeRow e1 h hv hx hy (by rw [e3]; exact hsz) (by rw [e3]; exact hl) h1 hsp
theorem al22 {N : Nat} {ρ : Nat → Value} {H : Hp} {w : World} {L : List Res} {ty : Nat} {cs : List Value} (h : St H w L) (hv : (.slice none 0 0 : Value).cells = cs.toArray) : ∃ v' w', Ex Try.prog N ρ w (.alloc 22) ty v' w' ∧ ∃ g, v' = .pointer (some ⟨g, 0, none⟩) ∧ St H w' (obj g 22 cs :: L) := by
  obtain ⟨i0, e1, e2, _, _⟩ := inf22
  exact m_alloc e1 e2 h hv
theorem sc37 : scalarT Try.prog 37 = true := by kernel_rfl
theorem ld37 {N : Nat} {ρ : Nat → Value} {w : World} {ty : Nat} {x : Operand} {ad : Addr} {v : Value} (hx : Ev N ρ x (.pointer (some ad))) (hc : w.cell? ad = some v) : Ex Try.prog N ρ w (.load 37 x) ty v w := x_load sc37 hx hc
theorem sto37 {N : Nat} {ρ : Nat → Value} {H : Hp} {w : World} {L : List Res} {g T ty i : Nat} {x y : Operand} {cs cs' : List Value} {v : Value} (h : St H w (obj g T cs :: L)) (hx : Ev N ρ x (.pointer (some ⟨g, i, none⟩))) (hy : Ev N ρ y v) (hsz : v.cells.size = 1) (hl : i + 1 ≤ cs.length) (h1 : ∀ u ∈ v.cells.toList, u.oneCell' = true) (hsp : splice cs i v.cells.toList = cs') : ∃ w', Ex0 Try.prog N ρ w (.store 37 x y) ty w' ∧ St H w' (obj g T cs' :: L) := by
  obtain ⟨i0, e1, _, e3, _⟩ := inf37
  exact m_store e1 h hx hy (by rw [e3]; exact hsz) (by rw [e3]; exact hl) h1 hsp
theorem stor37 {N : Nat} {ρ : Nat → Value} {H : Hp} {w : World} {L : List Res} {g e size n cap ty i : Nat} {x y : Operand} {xs xs' : List Value} {v u : Value} (h : St H w (row e size v n xs :: L)) (hv : v = .slice (some ⟨g, 0, none⟩) n cap) (hx : Ev N ρ x (.pointer (some ⟨g, i, none⟩))) (hy : Ev N ρ y u) (hsz : u.cells.size = 1) (hl : i + 1 ≤ xs.length) (h1 : ∀ u' ∈ u.cells.toList, u'.oneCell' = true) (hsp : splice xs i u.cells.toList = xs') : ∃ w', Ex0 Try.prog N ρ w (.store 37 x y) ty w' ∧ St H w' (row e size v n xs' :: L) := by
  obtain ⟨i0, e1, _, e3, _⟩ := inf37
  exact m_storeRow e1 h hv hx hy (by rw [e3]; exact hsz) (by rw [e3]; exact hl) h1 hsp
theorem al37 {N : Nat} {ρ : Nat → Value} {H : Hp} {w : World} {L : List Res} {ty : Nat} {cs : List Value} (h : St H w L) (hv : (.int .u64 0 : Value).cells = cs.toArray) : ∃ v' w', Ex Try.prog N ρ w (.alloc 37) ty v' w' ∧ ∃ g, v' = .pointer (some ⟨g, 0, none⟩) ∧ St H w' (obj g 37 cs :: L) := by
  obtain ⟨i0, e1, e2, _, _⟩ := inf37
  exact m_alloc e1 e2 h hv
theorem ag50 : aggT Try.prog 50 = true := by kernel_rfl
theorem ld50 {N : Nat} {ρ : Nat → Value} {w : World} {ty : Nat} {x : Operand} {ad : Addr} {cs : List Value} (hx : Ev N ρ x (.pointer (some ad))) (hc : At w ad cs) (hl : cs.length = 2) : Ex Try.prog N ρ w (.load 50 x) ty (.agg cs.toArray) w := by
  obtain ⟨i0, h1, _, h3, _⟩ := inf50
  exact x_loadA ag50 h1 hx hc (by rw [h3]; exact hl)
theorem lv50 {w : World} {ad : Addr} {cs : List Value} (hc : At w ad cs) (hl : cs.length = 2) : (loadVar 50 ad).run Try.prog w = .ok (.agg cs.toArray) w := by
  obtain ⟨i0, h1, _, h3, _⟩ := inf50
  exact run_loadVar_t ag50 h1 hc (by rw [h3]; exact hl)
theorem sto50 {N : Nat} {ρ : Nat → Value} {H : Hp} {w : World} {L : List Res} {g T ty i : Nat} {x y : Operand} {cs cs' : List Value} {v : Value} (h : St H w (obj g T cs :: L)) (hx : Ev N ρ x (.pointer (some ⟨g, i, none⟩))) (hy : Ev N ρ y v) (hsz : v.cells.size = 2) (hl : i + 2 ≤ cs.length) (h1 : ∀ u ∈ v.cells.toList, u.oneCell' = true) (hsp : splice cs i v.cells.toList = cs') : ∃ w', Ex0 Try.prog N ρ w (.store 50 x y) ty w' ∧ St H w' (obj g T cs' :: L) := by
  obtain ⟨i0, e1, _, e3, _⟩ := inf50
  exact m_store e1 h hx hy (by rw [e3]; exact hsz) (by rw [e3]; exact hl) h1 hsp
theorem stor50 {N : Nat} {ρ : Nat → Value} {H : Hp} {w : World} {L : List Res} {g e size n cap ty i : Nat} {x y : Operand} {xs xs' : List Value} {v u : Value} (h : St H w (row e size v n xs :: L)) (hv : v = .slice (some ⟨g, 0, none⟩) n cap) (hx : Ev N ρ x (.pointer (some ⟨g, i, none⟩))) (hy : Ev N ρ y u) (hsz : u.cells.size = 2) (hl : i + 2 ≤ xs.length) (h1 : ∀ u' ∈ u.cells.toList, u'.oneCell' = true) (hsp : splice xs i u.cells.toList = xs') : ∃ w', Ex0 Try.prog N ρ w (.store 50 x y) ty w' ∧ St H w' (row e size v n xs' :: L) := by
  obtain ⟨i0, e1, _, e3, _⟩ := inf50
  exact m_storeRow e1 h hv hx hy (by rw [e3]; exact hsz) (by rw [e3]; exact hl) h1 hsp
theorem al50 {N : Nat} {ρ : Nat → Value} {H : Hp} {w : World} {L : List Res} {ty : Nat} {cs : List Value} (h : St H w L) (hv : (.agg #[.slice none 0 0, .int .i64 0] : Value).cells = cs.toArray) : ∃ v' w', Ex Try.prog N ρ w (.alloc 50) ty v' w' ∧ ∃ g, v' = .pointer (some ⟨g, 0, none⟩) ∧ St H w' (obj g 50 cs :: L) := by
  obtain ⟨i0, e1, e2, _, _⟩ := inf50
  exact m_alloc e1 e2 h hv
theorem ag52 : aggT Try.prog 52 = true := by kernel_rfl
theorem ld52 {N : Nat} {ρ : Nat → Value} {w : World} {ty : Nat} {x : Operand} {ad : Addr} {cs : List Value} (hx : Ev N ρ x (.pointer (some ad))) (hc : At w ad cs) (hl : cs.length = 2) : Ex Try.prog N ρ w (.load 52 x) ty (.agg cs.toArray) w := by
  obtain ⟨i0, h1, _, h3, _⟩ := inf52
  exact x_loadA ag52 h1 hx hc (by rw [h3]; exact hl)
theorem lv52 {w : World} {ad : Addr} {cs : List Value} (hc : At w ad cs) (hl : cs.length = 2) : (loadVar 52 ad).run Try.prog w = .ok (.agg cs.toArray) w := by
  obtain ⟨i0, h1, _, h3, _⟩ := inf52
  exact run_loadVar_t ag52 h1 hc (by rw [h3]; exact hl)
theorem sto52 {N : Nat} {ρ : Nat → Value} {H : Hp} {w : World} {L : List Res} {g T ty i : Nat} {x y : Operand} {cs cs' : List Value} {v : Value} (h : St H w (obj g T cs :: L)) (hx : Ev N ρ x (.pointer (some ⟨g, i, none⟩))) (hy : Ev N ρ y v) (hsz : v.cells.size = 2) (hl : i + 2 ≤ cs.length) (h1 : ∀ u ∈ v.cells.toList, u.oneCell' = true) (hsp : splice cs i v.cells.toList = cs') : ∃ w', Ex0 Try.prog N ρ w (.store 52 x y) ty w' ∧ St H w' (obj g T cs' :: L) := by
  obtain ⟨i0, e1, _, e3, _⟩ := inf52
  exact m_store e1 h hx hy (by rw [e3]; exact hsz) (by rw [e3]; exact hl) h1 hsp
theorem stor52 {N : Nat} {ρ : Nat → Value} {H : Hp} {w : World} {L : List Res} {g e size n cap ty i : Nat} {x y : Operand} {xs xs' : List Value} {v u : Value} (h : St H w (row e size v n xs :: L)) (hv : v = .slice (some ⟨g, 0, none⟩) n cap) (hx : Ev N ρ x (.pointer (some ⟨g, i, none⟩))) (hy : Ev N ρ y u) (hsz : u.cells.size = 2) (hl : i + 2 ≤ xs.length) (h1 : ∀ u' ∈ u.cells.toList, u'.oneCell' = true) (hsp : splice xs i u.cells.toList = xs') : ∃ w', Ex0 Try.prog N ρ w (.store 52 x y) ty w' ∧ St H w' (row e size v n xs' :: L) := by
  obtain ⟨i0, e1, _, e3, _⟩ := inf52
  exact m_storeRow e1 h hv hx hy (by rw [e3]; exact hsz) (by rw [e3]; exact hl) h1 hsp
theorem al52 {N : Nat} {ρ : Nat → Value} {H : Hp} {w : World} {L : List Res} {ty : Nat} {cs : List Value} (h : St H w L) (hv : (.agg #[.int .u8 0, .int .i64 0] : Value).cells = cs.toArray) : ∃ v' w', Ex Try.prog N ρ w (.alloc 52) ty v' w' ∧ ∃ g, v' = .pointer (some ⟨g, 0, none⟩) ∧ St H w' (obj g 52 cs :: L) := by
  obtain ⟨i0, e1, e2, _, _⟩ := inf52
  exact m_alloc e1 e2 h hv
theorem ag55 : aggT Try.prog 55 = true := by kernel_rfl
theorem ld55 {N : Nat} {ρ : Nat → Value} {w : World} {ty : Nat} {x : Operand} {ad : Addr} {cs : List Value} (hx : Ev N ρ x (.pointer (some ad))) (hc : At w ad cs) (hl : cs.length = 4) : Ex Try.prog N ρ w (.load 55 x) ty (.agg cs.toArray) w := by
  obtain ⟨i0, h1, _, h3, _⟩ := inf55
  exact x_loadA ag55 h1 hx hc (by rw [h3]; exact hl)
theorem lv55 {w : World} {ad : Addr} {cs : List Value} (hc : At w ad cs) (hl : cs.length = 4) : (loadVar 55 ad).run Try.prog w = .ok (.agg cs.toArray) w := by
  obtain ⟨i0, h1, _, h3, _⟩ := inf55
  exact run_loadVar_t ag55 h1 hc (by rw [h3]; exact hl)
theorem sto55 {N : Nat} {ρ : Nat → Value} {H : Hp} {w : World} {L : List Res} {g T ty i : Nat} {x y : Operand} {cs cs' : List Value} {v : Value} (h : St H w (obj g T cs :: L)) (hx : Ev N ρ x (.pointer (some ⟨g, i, none⟩))) (hy : Ev N ρ y v) (hsz : v.cells.size = 4) (hl : i + 4 ≤ cs.length) (h1 : ∀ u ∈ v.cells.toList, u.oneCell' = true) (hsp : splice cs i v.cells.toList = cs') : ∃ w', Ex0 Try.prog N ρ w (.store 55 x y) ty w' ∧ St H w' (obj g T cs' :: L) := by
  obtain ⟨i0, e1, _, e3, _⟩ := inf55
  exact m_store e1 h hx hy (by rw [e3]; exact hsz) (by rw [e3]; exact hl) h1 hsp
theorem stor55 {N : Nat} {ρ : Nat → Value} {H : Hp} {w : World} {L : List Res} {g e size n cap ty i : Nat} {x y : Operand} {xs xs' : List Value} {v u : Value} (h : St H w (row e size v n xs :: L)) (hv : v = .slice (some ⟨g, 0, none⟩) n cap) (hx : Ev N ρ x (.pointer (some ⟨g, i, none⟩))) (hy : Ev N ρ y u) (hsz : u.cells.size = 4) (hl : i + 4 ≤ xs.length) (h1 : ∀ u' ∈ u.cells.toList, u'.oneCell' = true) (hsp : splice xs i u.cells.toList = xs') : ∃ w', Ex0 Try.prog N ρ w (.store 55 x y) ty w' ∧ St H w' (row e size v n xs' :: L) := by
  obtain ⟨i0, e1, _, e3, _⟩ := inf55
  exact m_storeRow e1 h hv hx hy (by rw [e3]; exact hsz) (by rw [e3]; exact hl) h1 hsp
theorem al55 {N : Nat} {ρ : Nat → Value} {H : Hp} {w : World} {L : List Res} {ty : Nat} {cs : List Value} (h : St H w L) (hv : (.agg #[.int .u8 0, .int .u8 0, .int .u8 0, .int .u8 0] : Value).cells = cs.toArray) : ∃ v' w', Ex Try.prog N ρ w (.alloc 55) ty v' w' ∧ ∃ g, v' = .pointer (some ⟨g, 0, none⟩) ∧ St H w' (obj g 55 cs :: L) := by
  obtain ⟨i0, e1, e2, _, _⟩ := inf55
  exact m_alloc e1 e2 h hv
theorem ag58 : aggT Try.prog 58 = true := by kernel_rfl
theorem ld58 {N : Nat} {ρ : Nat → Value} {w : World} {ty : Nat} {x : Operand} {ad : Addr} {cs : List Value} (hx : Ev N ρ x (.pointer (some ad))) (hc : At w ad cs) (hl : cs.length = 2) : Ex Try.prog N ρ w (.load 58 x) ty (.agg cs.toArray) w := by
  obtain ⟨i0, h1, _, h3, _⟩ := inf58
  exact x_loadA ag58 h1 hx hc (by rw [h3]; exact hl)
theorem lv58 {w : World} {ad : Addr} {cs : List Value} (hc : At w ad cs) (hl : cs.length = 2) : (loadVar 58 ad).run Try.prog w = .ok (.agg cs.toArray) w := by
  obtain ⟨i0, h1, _, h3, _⟩ := inf58
  exact run_loadVar_t ag58 h1 hc (by rw [h3]; exact hl)
theorem sto58 {N : Nat} {ρ : Nat → Value} {H : Hp} {w : World} {L : List Res} {g T ty i : Nat} {x y : Operand} {cs cs' : List Value} {v : Value} (h : St H w (obj g T cs :: L)) (hx : Ev N ρ x (.pointer (some ⟨g, i, none⟩))) (hy : Ev N ρ y v) (hsz : v.cells.size = 2) (hl : i + 2 ≤ cs.length) (h1 : ∀ u ∈ v.cells.toList, u.oneCell' = true) (hsp : splice cs i v.cells.toList = cs') : ∃ w', Ex0 Try.prog N ρ w (.store 58 x y) ty w' ∧ St H w' (obj g T cs' :: L) := by
  obtain ⟨i0, e1, _, e3, _⟩ := inf58
  exact m_store e1 h hx hy (by rw [e3]; exact hsz) (by rw [e3]; exact hl) h1 hsp
theorem stor58 {N : Nat} {ρ : Nat → Value} {H : Hp} {w : World} {L : List Res} {g e size n cap ty i : Nat} {x y : Operand} {xs xs' : List Value} {v u : Value} (h : St H w (row e size v n xs :: L)) (hv : v = .slice (some ⟨g, 0, none⟩) n cap) (hx : Ev N ρ x (.pointer (some ⟨g, i, none⟩))) (hy : Ev N ρ y u) (hsz : u.cells.size = 2) (hl : i + 2 ≤ xs.length) (h1 : ∀ u' ∈ u.cells.toList, u'.oneCell' = true) (hsp : splice xs i u.cells.toList = xs') : ∃ w', Ex0 Try.prog N ρ w (.store 58 x y) ty w' ∧ St H w' (row e size v n xs' :: L) := by
  obtain ⟨i0, e1, _, e3, _⟩ := inf58
  exact m_storeRow e1 h hv hx hy (by rw [e3]; exact hsz) (by rw [e3]; exact hl) h1 hsp
theorem al58 {N : Nat} {ρ : Nat → Value} {H : Hp} {w : World} {L : List Res} {ty : Nat} {cs : List Value} (h : St H w L) (hv : (.agg #[.slice none 0 0, .bool false] : Value).cells = cs.toArray) : ∃ v' w', Ex Try.prog N ρ w (.alloc 58) ty v' w' ∧ ∃ g, v' = .pointer (some ⟨g, 0, none⟩) ∧ St H w' (obj g 58 cs :: L) := by
  obtain ⟨i0, e1, e2, _, _⟩ := inf58
  exact m_alloc e1 e2 h hv
theorem fa50_0 {N : Nat} {ρ : Nat → Value} {w : World} {ty b o : Nat} {x : Operand} (hx : Ev N ρ x (.pointer (some ⟨b, o, none⟩))) : Ex Try.prog N ρ w (.fieldAddr 50 x 0) ty (.pointer (some ⟨b, o + 0, none⟩)) w := by
  obtain ⟨i0, h1, _, h3, _⟩ := inf22
  have := x_fieldAddr (ty := ty) (w := w) Try.underlying50 (f := 0) rfl h1 (by rw [h3]; decide) hx
  rwa [add_none] at this
theorem fa50_1 {N : Nat} {ρ : Nat → Value} {w : World} {ty b o : Nat} {x : Operand} (hx : Ev N ρ x (.pointer (some ⟨b, o, none⟩))) : Ex Try.prog N ρ w (.fieldAddr 50 x 1) ty (.pointer (some ⟨b, o + 1, none⟩)) w := by
  obtain ⟨i0, h1, _, h3, _⟩ := inf3
  have := x_fieldAddr (ty := ty) (w := w) Try.underlying50 (f := 1) rfl h1 (by rw [h3]; decide) hx
  rwa [add_none] at this
theorem fa52_0 {N : Nat} {ρ : Nat → Value} {w : World} {ty b o : Nat} {x : Operand} (hx : Ev N ρ x (.pointer (some ⟨b, o, none⟩))) : Ex Try.prog N ρ w (.fieldAddr 52 x 0) ty (.pointer (some ⟨b, o + 0, none⟩)) w := by
  obtain ⟨i0, h1, _, h3, _⟩ := inf5
  have := x_fieldAddr (ty := ty) (w := w) Try.underlying52 (f := 0) rfl h1 (by rw [h3]; decide) hx
  rwa [add_none] at this
theorem fa52_1 {N : Nat} {ρ : Nat → Value} {w : World} {ty b o : Nat} {x : Operand} (hx : Ev N ρ x (.pointer (some ⟨b, o, none⟩))) : Ex Try.prog N ρ w (.fieldAddr 52 x 1) ty (.pointer (some ⟨b, o + 1, none⟩)) w := by
  obtain ⟨i0, h1, _, h3, _⟩ := inf3
  have := x_fieldAddr (ty := ty) (w := w) Try.underlying52 (f := 1) rfl h1 (by rw [h3]; decide) hx
  rwa [add_none] at this
theorem fa58_0 {N : Nat} {ρ : Nat → Value} {w : World} {ty b o : Nat} {x : Operand} (hx : Ev N ρ x (.pointer (some ⟨b, o, none⟩))) : Ex Try.prog N ρ w (.fieldAddr 58 x 0) ty (.pointer (some ⟨b, o + 0, none⟩)) w := by
  obtain ⟨i0, h1, _, h3, _⟩ := inf22
  have := x_fieldAddr (ty := ty) (w := w) Try.underlying58 (f := 0) rfl h1 (by rw [h3]; decide) hx
  rwa [add_none] at this
theorem fa58_1 {N : Nat} {ρ : Nat → Value} {w : World} {ty b o : Nat} {x : Operand} (hx : Ev N ρ x (.pointer (some ⟨b, o, none⟩))) : Ex Try.prog N ρ w (.fieldAddr 58 x 1) ty (.pointer (some ⟨b, o + 1, none⟩)) w := by
  obtain ⟨i0, h1, _, h3, _⟩ := inf4
  have := x_fieldAddr (ty := ty) (w := w) Try.underlying58 (f := 1) rfl h1 (by rw [h3]; decide) hx
  rwa [add_none] at this
theorem ix22 {N : Nat} {ρ : Nat → Value} {w : World} {ty b o n c : Nat} {A : Option Addr} {x y : Operand} {k : IntKind} {i : Int} (hx : Ev N ρ x (.slice A n c)) (hA : A = some ⟨b, o, none⟩) (hy : Ev N ρ y (.int k i)) (h0 : 0 ≤ i) (h1 : i < n) : Ex Try.prog N ρ w (.indexAddr 22 x y) ty (.pointer (some ⟨b, o + i.toNat * 1, none⟩)) w := by
  obtain ⟨i0, e1, _, e3, _⟩ := inf5
  subst hA
  have := x_indexAddr (ty := ty) (w := w) Try.underlying22 e1 hx hy h0 h1
  rwa [add_none, e3] at this
theorem ixo22 {N : Nat} {ρ : Nat → Value} {w : World} {ty b o o' n c : Nat} {A : Option Addr} {x y : Operand} {k : IntKind} {i : Int} (hx : Ev N ρ x (.slice A n c)) (hA : A = some ⟨b, o, none⟩) (hy : Ev N ρ y (.int k i)) (h0 : 0 ≤ i) (h1 : i < n) (ho : o + i.toNat * 1 = o') : Ex Try.prog N ρ w (.indexAddr 22 x y) ty (.pointer (some ⟨b, o', none⟩)) w := by
  subst ho
  exact ix22 hx hA hy h0 h1
theorem ix35 {N : Nat} {ρ : Nat → Value} {w : World} {ty b o n c : Nat} {A : Option Addr} {x y : Operand} {k : IntKind} {i : Int} (hx : Ev N ρ x (.slice A n c)) (hA : A = some ⟨b, o, none⟩) (hy : Ev N ρ y (.int k i)) (h0 : 0 ≤ i) (h1 : i < n) : Ex Try.prog N ρ w (.indexAddr 35 x y) ty (.pointer (some ⟨b, o + i.toNat * 1, none⟩)) w := by
  obtain ⟨i0, e1, _, e3, _⟩ := inf37
  subst hA
  have := x_indexAddr (ty := ty) (w := w) Try.underlying35 e1 hx hy h0 h1
  rwa [add_none, e3] at this
theorem ixo35 {N : Nat} {ρ : Nat → Value} {w : World} {ty b o o' n c : Nat} {A : Option Addr} {x y : Operand} {k : IntKind} {i : Int} (hx : Ev N ρ x (.slice A n c)) (hA : A = some ⟨b, o, none⟩) (hy : Ev N ρ y (.int k i)) (h0 : 0 ≤ i) (h1 : i < n) (ho : o + i.toNat * 1 = o') : Ex Try.prog N ρ w (.indexAddr 35 x y) ty (.pointer (some ⟨b, o', none⟩)) w := by
  subst ho
  exact ix35 hx hA hy h0 h1
theorem ix47 {N : Nat} {ρ : Nat → Value} {w : World} {ty b o n c : Nat} {A : Option Addr} {x y : Operand} {k : IntKind} {i : Int} (hx : Ev N ρ x (.slice A n c)) (hA : A = some ⟨b, o, none⟩) (hy : Ev N ρ y (.int k i)) (h0 : 0 ≤ i) (h1 : i < n) : Ex Try.prog N ρ w (.indexAddr 47 x y) ty (.pointer (some ⟨b, o + i.toNat * 2, none⟩)) w := by
  obtain ⟨i0, e1, _, e3, _⟩ := inf52
  subst hA
  have := x_indexAddr (ty := ty) (w := w) Try.underlying47 e1 hx hy h0 h1
  rwa [add_none, e3] at this
theorem ixo47 {N : Nat} {ρ : Nat → Value} {w : World} {ty b o o' n c : Nat} {A : Option Addr} {x y : Operand} {k : IntKind} {i : Int} (hx : Ev N ρ x (.slice A n c)) (hA : A = some ⟨b, o, none⟩) (hy : Ev N ρ y (.int k i)) (h0 : 0 ≤ i) (h1 : i < n) (ho : o + i.toNat * 2 = o') : Ex Try.prog N ρ w (.indexAddr 47 x y) ty (.pointer (some ⟨b, o', none⟩)) w := by
  subst ho
  exact ix47 hx hA hy h0 h1
theorem bl50 {N : Nat} {ρ : Nat → Value} {w : World} {ty : Nat} {parts : List (Nat × Operand)} {ps : List (Nat × Value)} {cs : List Value} (hps : Evp N ρ parts ps) (hf : fillL (([(0, 1), (1, 1)] : List (Nat × Nat))[·]?) [.slice none 0 0, .int .i64 0] ps = some cs) : Ex Try.prog N ρ w (.build 50 parts.toArray) ty (.agg cs.toArray) w :=
  x_bld (places := [(0, 1), (1, 1)]) Try.underlying50 inf50 hps (by kernel_rfl) hf
theorem bl58 {N : Nat} {ρ : Nat → Value} {w : World} {ty : Nat} {parts : List (Nat × Operand)} {ps : List (Nat × Value)} {cs : List Value} (hps : Evp N ρ parts ps) (hf : fillL (([(0, 1), (1, 1)] : List (Nat × Nat))[·]?) [.slice none 0 0, .bool false] ps = some cs) : Ex Try.prog N ρ w (.build 58 parts.toArray) ty (.agg cs.toArray) w :=
  x_bld (places := [(0, 1), (1, 1)]) Try.underlying58 inf58 hps (by kernel_rfl) hf
theorem eqg55 : Try.prog.eqGuardType Try.prog.depth 55 = false := by kernel_rfl
theorem cb9 : Cb Try.prog 9 := ⟨Try.f9, Try.func9, by kernel_rfl, by kernel_rfl⟩
theorem cb10 : Cb Try.prog 10 := ⟨Try.f10, Try.func10, by kernel_rfl, by kernel_rfl⟩
theorem cb11 : Cb Try.prog 11 := ⟨Try.f11, Try.func11, by kernel_rfl, by kernel_rfl⟩
theorem cb12 : Cb Try.prog 12 := ⟨Try.f12, Try.func12, by kernel_rfl, by kernel_rfl⟩
theorem cb13 : Cb Try.prog 13 := ⟨Try.f13, Try.func13, by kernel_rfl, by kernel_rfl⟩
theorem cb14 : Cb Try.prog 14 := ⟨Try.f14, Try.func14, by kernel_rfl, by kernel_rfl⟩
theorem cb15 : Cb Try.prog 15 := ⟨Try.f15, Try.func15, by kernel_rfl, by kernel_rfl⟩
theorem cb16 : Cb Try.prog 16 := ⟨Try.f16, Try.func16, by kernel_rfl, by kernel_rfl⟩
theorem cb17 : Cb Try.prog 17 := ⟨Try.f17, Try.func17, by kernel_rfl, by kernel_rfl⟩
theorem cb18 : Cb Try.prog 18 := ⟨Try.f18, Try.func18, by kernel_rfl, by kernel_rfl⟩
theorem cb19 : Cb Try.prog 19 := ⟨Try.f19, Try.func19, by kernel_rfl, by kernel_rfl⟩
theorem cb20 : Cb Try.prog 20 := ⟨Try.f20, Try.func20, by kernel_rfl, by kernel_rfl⟩
theorem cb21 : Cb Try.prog 21 := ⟨Try.f21, Try.func21, by kernel_rfl, by kernel_rfl⟩
theorem cb22 : Cb Try.prog 22 := ⟨Try.f22, Try.func22, by kernel_rfl, by kernel_rfl⟩
theorem cb23 : Cb Try.prog 23 := ⟨Try.f23, Try.func23, by kernel_rfl, by kernel_rfl⟩
theorem cb24 : Cb Try.prog 24 := ⟨Try.f24, Try.func24, by kernel_rfl, by kernel_rfl⟩
theorem cb25 : Cb Try.prog 25 := ⟨Try.f25, Try.func25, by kernel_rfl, by kernel_rfl⟩
theorem cb26 : Cb Try.prog 26 := ⟨Try.f26, Try.func26, by kernel_rfl, by kernel_rfl⟩
theorem cb27 : Cb Try.prog 27 := ⟨Try.f27, Try.func27, by kernel_rfl, by kernel_rfl⟩
theorem cb28 : Cb Try.prog 28 := ⟨Try.f28, Try.func28, by kernel_rfl, by kernel_rfl⟩
theorem cb29 : Cb Try.prog 29 := ⟨Try.f29, Try.func29, by kernel_rfl, by kernel_rfl⟩
end Go.Proofs.Ytmjgphaobdplcaa
