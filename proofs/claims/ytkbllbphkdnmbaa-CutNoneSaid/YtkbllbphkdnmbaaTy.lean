/- Facts on the types and functions of this seat, printed by gen.py. -/
import Derived.Test.YtkbllbphkdnmbaaProg
import Derived.Test.YtkbllbphkdnmbaaFmE
set_option linter.unusedVariables false
set_option linter.unusedSimpArgs false
namespace Go.Proofs.Ytkbllbphkdnmbaa
open Go Go.FM Go.Proofs
set_option maxRecDepth 100000
theorem mixed : Try.prog.follows .mixedOrders = true := by kernel_rfl
theorem inf3 : Inf Try.prog 3 (.int .i64 0) 1 8 := Inf.mk (by kernel_rfl)
theorem inf5 : Inf Try.prog 5 (.int .u8 0) 1 1 := Inf.mk (by kernel_rfl)
theorem inf23 : Inf Try.prog 23 (.int .u64 0) 1 8 := Inf.mk (by kernel_rfl)
theorem inf25 : Inf Try.prog 25 (.agg #[.int .u64 0, .int .i64 0]) 2 16 := Inf.mk (by kernel_rfl)
theorem inf29 : Inf Try.prog 29 (.slice none 0 0) 1 24 := Inf.mk (by kernel_rfl)
theorem inf38 : Inf Try.prog 38 (.agg #[.int .u64 0, .int .i64 0, .int .i64 0, .slice none 0 0]) 4 48 := Inf.mk (by kernel_rfl)
theorem inf40 : Inf Try.prog 40 (.slice none 0 0) 1 24 := Inf.mk (by kernel_rfl)
theorem inf47 : Inf Try.prog 47 (.agg #[.int .i64 0, .slice none 0 0]) 2 32 := Inf.mk (by kernel_rfl)
theorem sc3 : scalarT Try.prog 3 = true := by kernel_rfl
theorem ld3 {N : Nat} {ρ : Nat → Value} {w : World} {ty : Nat} {x : Operand} {ad : Addr} {v : Value} (hx : Ev N ρ x (.pointer (some ad))) (hc : w.cell? ad = some v) : Ex Try.prog N ρ w (.load 3 x) ty v w := x_load sc3 hx hc
theorem sto3 {N : Nat} {ρ : Nat → Value} {H : Hp} {w : World} {L : List Res} {g T ty i : Nat} {x y : Operand} {cs cs' : List Value} {v : Value} (h : St H w (obj g T cs :: L)) (hx : Ev N ρ x (.pointer (some ⟨g, i, none⟩))) (hy : Ev N ρ y v) (hsz : v.cells.size = 1) (hl : i + 1 ≤ cs.length) (h1 : ∀ u ∈ v.cells.toList, u.oneCell' = true) (hsp : splice cs i v.cells.toList = cs') : ∃ w', Ex0 Try.prog N ρ w (.store 3 x y) ty w' ∧ St H w' (obj g T cs' :: L) := by
  obtain ⟨i0, e1, _, e3, _⟩ := inf3
  exact m_store e1 h hx hy (by rw [e3]; exact hsz) (by rw [e3]; exact hl) h1 hsp
theorem stor3 {N : Nat} {ρ : Nat → Value} {H : Hp} {w : World} {L : List Res} {g e size n cap ty i : Nat} {x y : Operand} {xs xs' : List Value} {v u : Value} (h : St H w (row e size v n xs :: L)) (hv : v = .slice (some ⟨g, 0, none⟩) n cap) (hx : Ev N ρ x (.pointer (some ⟨g, i, none⟩))) (hy : Ev N ρ y u) (hsz : u.cells.size = 1) (hl : i + 1 ≤ xs.length) (h1 : ∀ u' ∈ u.cells.toList, u'.oneCell' = true) (hsp : splice xs i u.cells.toList = xs') : ∃ w', Ex0 Try.prog N ρ w (.store 3 x y) ty w' ∧ St H w' (row e size v n xs' :: L) := by
  obtain ⟨i0, e1, _, e3, _⟩ := inf3
  exact m_storeRow e1 h hv hx hy (by rw [e3]; exact hsz) (by rw [e3]; exact hl) h1 hsp
theorem al3 {N : Nat} {ρ : Nat → Value} {H : Hp} {w : World} {L : List Res} {ty : Nat} {cs : List Value} (h : St H w L) (hv : (.int .i64 0 : Value).cells = cs.toArray) : ∃ v' w', Ex Try.prog N ρ w (.alloc 3) ty v' w' ∧ ∃ g, v' = .pointer (some ⟨g, 0, none⟩) ∧ St H w' (obj g 3 cs :: L) := by
  obtain ⟨i0, e1, e2, _, _⟩ := inf3
  exact m_alloc e1 e2 h hv
theorem sc5 : scalarT Try.prog 5 = true := by kernel_rfl
theorem ld5 {N : Nat} {ρ : Nat → Value} {w : World} {ty : Nat} {x : Operand} {ad : Addr} {v : Value} (hx : Ev N ρ x (.pointer (some ad))) (hc : w.cell? ad = some v) : Ex Try.prog N ρ w (.load 5 x) ty v w := x_load sc5 hx hc
theorem sto5 {N : Nat} {ρ : Nat → Value} {H : Hp} {w : World} {L : List Res} {g T ty i : Nat} {x y : Operand} {cs cs' : List Value} {v : Value} (h : St H w (obj g T cs :: L)) (hx : Ev N ρ x (.pointer (some ⟨g, i, none⟩))) (hy : Ev N ρ y v) (hsz : v.cells.size = 1) (hl : i + 1 ≤ cs.length) (h1 : ∀ u ∈ v.cells.toList, u.oneCell' = true) (hsp : splice cs i v.cells.toList = cs') : ∃ w', Ex0 Try.prog N ρ w (.store 5 x y) ty w' ∧ St H w' (obj g T cs' :: L) := by
  obtain ⟨i0, e1, _, e3, _⟩ := inf5
  exact m_store e1 h hx hy (by rw [e3]; exact hsz) (by rw [e3]; exact hl) h1 hsp
theorem stor5 {N : Nat} {ρ : Nat → Value} {H : Hp} {w : World} {L : List Res} {g e size n cap ty i : Nat} {x y : Operand} {xs xs' : List Value} {v u : Value} (h : St H w (row e size v n xs :: L)) (hv : v = .slice (some ⟨g, 0, none⟩) n cap) (hx : Ev N ρ x (.pointer (some ⟨g, i, none⟩))) (hy : Ev N ρ y u) (hsz : u.cells.size = 1) (hl : i + 1 ≤ xs.length) (h1 : ∀ u' ∈ u.cells.toList, u'.oneCell' = true) (hsp : splice xs i u.cells.toList = xs') : ∃ w', Ex0 Try.prog N ρ w (.store 5 x y) ty w' ∧ St H w' (row e size v n xs' :: L) := by
  obtain ⟨i0, e1, _, e3, _⟩ := inf5
  exact m_storeRow e1 h hv hx hy (by rw [e3]; exact hsz) (by rw [e3]; exact hl) h1 hsp
theorem al5 {N : Nat} {ρ : Nat → Value} {H : Hp} {w : World} {L : List Res} {ty : Nat} {cs : List Value} (h : St H w L) (hv : (.int .u8 0 : Value).cells = cs.toArray) : ∃ v' w', Ex Try.prog N ρ w (.alloc 5) ty v' w' ∧ ∃ g, v' = .pointer (some ⟨g, 0, none⟩) ∧ St H w' (obj g 5 cs :: L) := by
  obtain ⟨i0, e1, e2, _, _⟩ := inf5
  exact m_alloc e1 e2 h hv
theorem sc23 : scalarT Try.prog 23 = true := by kernel_rfl
theorem ld23 {N : Nat} {ρ : Nat → Value} {w : World} {ty : Nat} {x : Operand} {ad : Addr} {v : Value} (hx : Ev N ρ x (.pointer (some ad))) (hc : w.cell? ad = some v) : Ex Try.prog N ρ w (.load 23 x) ty v w := x_load sc23 hx hc
theorem sto23 {N : Nat} {ρ : Nat → Value} {H : Hp} {w : World} {L : List Res} {g T ty i : Nat} {x y : Operand} {cs cs' : List Value} {v : Value} (h : St H w (obj g T cs :: L)) (hx : Ev N ρ x (.pointer (some ⟨g, i, none⟩))) (hy : Ev N ρ y v) (hsz : v.cells.size = 1) (hl : i + 1 ≤ cs.length) (h1 : ∀ u ∈ v.cells.toList, u.oneCell' = true) (hsp : splice cs i v.cells.toList = cs') : ∃ w', Ex0 Try.prog N ρ w (.store 23 x y) ty w' ∧ St H w' (obj g T cs' :: L) := by
  obtain ⟨i0, e1, _, e3, _⟩ := inf23
  exact m_store e1 h hx hy (by rw [e3]; exact hsz) (by rw [e3]; exact hl) h1 hsp
theorem stor23 {N : Nat} {ρ : Nat → Value} {H : Hp} {w : World} {L : List Res} {g e size n cap ty i : Nat} {x y : Operand} {xs xs' : List Value} {v u : Value} (h : St H w (row e size v n xs :: L)) (hv : v = .slice (some ⟨g, 0, none⟩) n cap) (hx : Ev N ρ x (.pointer (some ⟨g, i, none⟩))) (hy : Ev N ρ y u) (hsz : u.cells.size = 1) (hl : i + 1 ≤ xs.length) (h1 : ∀ u' ∈ u.cells.toList, u'.oneCell' = true) (hsp : splice xs i u.cells.toList = xs') : ∃ w', Ex0 Try.prog N ρ w (.store 23 x y) ty w' ∧ St H w' (row e size v n xs' :: L) := by
  obtain ⟨i0, e1, _, e3, _⟩ := inf23
  exact m_storeRow e1 h hv hx hy (by rw [e3]; exact hsz) (by rw [e3]; exact hl) h1 hsp
theorem al23 {N : Nat} {ρ : Nat → Value} {H : Hp} {w : World} {L : List Res} {ty : Nat} {cs : List Value} (h : St H w L) (hv : (.int .u64 0 : Value).cells = cs.toArray) : ∃ v' w', Ex Try.prog N ρ w (.alloc 23) ty v' w' ∧ ∃ g, v' = .pointer (some ⟨g, 0, none⟩) ∧ St H w' (obj g 23 cs :: L) := by
  obtain ⟨i0, e1, e2, _, _⟩ := inf23
  exact m_alloc e1 e2 h hv
theorem ag25 : aggT Try.prog 25 = true := by kernel_rfl
theorem ld25 {N : Nat} {ρ : Nat → Value} {w : World} {ty : Nat} {x : Operand} {ad : Addr} {cs : List Value} (hx : Ev N ρ x (.pointer (some ad))) (hc : At w ad cs) (hl : cs.length = 2) : Ex Try.prog N ρ w (.load 25 x) ty (.agg cs.toArray) w := by
  obtain ⟨i0, h1, _, h3, _⟩ := inf25
  exact x_loadA ag25 h1 hx hc (by rw [h3]; exact hl)
theorem lv25 {w : World} {ad : Addr} {cs : List Value} (hc : At w ad cs) (hl : cs.length = 2) : (loadVar 25 ad).run Try.prog w = .ok (.agg cs.toArray) w := by
  obtain ⟨i0, h1, _, h3, _⟩ := inf25
  exact run_loadVar_t ag25 h1 hc (by rw [h3]; exact hl)
theorem sto25 {N : Nat} {ρ : Nat → Value} {H : Hp} {w : World} {L : List Res} {g T ty i : Nat} {x y : Operand} {cs cs' : List Value} {v : Value} (h : St H w (obj g T cs :: L)) (hx : Ev N ρ x (.pointer (some ⟨g, i, none⟩))) (hy : Ev N ρ y v) (hsz : v.cells.size = 2) (hl : i + 2 ≤ cs.length) (h1 : ∀ u ∈ v.cells.toList, u.oneCell' = true) (hsp : splice cs i v.cells.toList = cs') : ∃ w', Ex0 Try.prog N ρ w (.store 25 x y) ty w' ∧ St H w' (obj g T cs' :: L) := by
  obtain ⟨i0, e1, _, e3, _⟩ := inf25
  exact m_store e1 h hx hy (by rw [e3]; exact hsz) (by rw [e3]; exact hl) h1 hsp
theorem stor25 {N : Nat} {ρ : Nat → Value} {H : Hp} {w : World} {L : List Res} {g e size n cap ty i : Nat} {x y : Operand} {xs xs' : List Value} {v u : Value} (h : St H w (row e size v n xs :: L)) (hv : v = .slice (some ⟨g, 0, none⟩) n cap) (hx : Ev N ρ x (.pointer (some ⟨g, i, none⟩))) (hy : Ev N ρ y u) (hsz : u.cells.size = 2) (hl : i + 2 ≤ xs.length) (h1 : ∀ u' ∈ u.cells.toList, u'.oneCell' = true) (hsp : splice xs i u.cells.toList = xs') : ∃ w', Ex0 Try.prog N ρ w (.store 25 x y) ty w' ∧ St H w' (row e size v n xs' :: L) := by
  obtain ⟨i0, e1, _, e3, _⟩ := inf25
  exact m_storeRow e1 h hv hx hy (by rw [e3]; exact hsz) (by rw [e3]; exact hl) h1 hsp
theorem al25 {N : Nat} {ρ : Nat → Value} {H : Hp} {w : World} {L : List Res} {ty : Nat} {cs : List Value} (h : St H w L) (hv : (.agg #[.int .u64 0, .int .i64 0] : Value).cells = cs.toArray) : ∃ v' w', Ex Try.prog N ρ w (.alloc 25) ty v' w' ∧ ∃ g, v' = .pointer (some ⟨g, 0, none⟩) ∧ St H w' (obj g 25 cs :: L) := by
  obtain ⟨i0, e1, e2, _, _⟩ := inf25
  exact m_alloc e1 e2 h hv
theorem sc29 : scalarT Try.prog 29 = true := by kernel_rfl
theorem ld29 {N : Nat} {ρ : Nat → Value} {w : World} {ty : Nat} {x : Operand} {ad : Addr} {v : Value} (hx : Ev N ρ x (.pointer (some ad))) (hc : w.cell? ad = some v) : Ex Try.prog N ρ w (.load 29 x) ty v w := x_load sc29 hx hc
theorem sto29 {N : Nat} {ρ : Nat → Value} {H : Hp} {w : World} {L : List Res} {g T ty i : Nat} {x y : Operand} {cs cs' : List Value} {v : Value} (h : St H w (obj g T cs :: L)) (hx : Ev N ρ x (.pointer (some ⟨g, i, none⟩))) (hy : Ev N ρ y v) (hsz : v.cells.size = 1) (hl : i + 1 ≤ cs.length) (h1 : ∀ u ∈ v.cells.toList, u.oneCell' = true) (hsp : splice cs i v.cells.toList = cs') : ∃ w', Ex0 Try.prog N ρ w (.store 29 x y) ty w' ∧ St H w' (obj g T cs' :: L) := by
  obtain ⟨i0, e1, _, e3, _⟩ := inf29
  exact m_store e1 h hx hy (by rw [e3]; exact hsz) (by rw [e3]; exact hl) h1 hsp
theorem stor29 {N : Nat} {ρ : Nat → Value} {H : Hp} {w : World} {L : List Res} {g e size n cap ty i : Nat} {x y : Operand} {xs xs' : List Value} {v u : Value} (h : St H w (row e size v n xs :: L)) (hv : v = .slice (some ⟨g, 0, none⟩) n cap) (hx : Ev N ρ x (.pointer (some ⟨g, i, none⟩))) (hy : Ev N ρ y u) (hsz : u.cells.size = 1) (hl : i + 1 ≤ xs.length) (h1 : ∀ u' ∈ u.cells.toList, u'.oneCell' = true) (hsp : splice xs i u.cells.toList = xs') : ∃ w', Ex0 Try.prog N ρ w (.store 29 x y) ty w' ∧ St H w' (row e size v n xs' :: L) := by
  obtain ⟨i0, e1, _, e3, _⟩ := inf29
  exact m_storeRow e1 h hv hx hy (by rw [e3]; exact hsz) (by rw [e3]; exact hl) h1 hsp
theorem al29 {N : Nat} {ρ : Nat → Value} {H : Hp} {w : World} {L : List Res} {ty : Nat} {cs : List Value} (h : St H w L) (hv : (.slice none 0 0 : Value).cells = cs.toArray) : ∃ v' w', Ex Try.prog N ρ w (.alloc 29) ty v' w' ∧ ∃ g, v' = .pointer (some ⟨g, 0, none⟩) ∧ St H w' (obj g 29 cs :: L) := by
  obtain ⟨i0, e1, e2, _, _⟩ := inf29
  exact m_alloc e1 e2 h hv
theorem ag38 : aggT Try.prog 38 = true := by kernel_rfl
theorem ld38 {N : Nat} {ρ : Nat → Value} {w : World} {ty : Nat} {x : Operand} {ad : Addr} {cs : List Value} (hx : Ev N ρ x (.pointer (some ad))) (hc : At w ad cs) (hl : cs.length = 4) : Ex Try.prog N ρ w (.load 38 x) ty (.agg cs.toArray) w := by
  obtain ⟨i0, h1, _, h3, _⟩ := inf38
  exact x_loadA ag38 h1 hx hc (by rw [h3]; exact hl)
theorem lv38 {w : World} {ad : Addr} {cs : List Value} (hc : At w ad cs) (hl : cs.length = 4) : (loadVar 38 ad).run Try.prog w = .ok (.agg cs.toArray) w := by
  obtain ⟨i0, h1, _, h3, _⟩ := inf38
  exact run_loadVar_t ag38 h1 hc (by rw [h3]; exact hl)
theorem sto38 {N : Nat} {ρ : Nat → Value} {H : Hp} {w : World} {L : List Res} {g T ty i : Nat} {x y : Operand} {cs cs' : List Value} {v : Value} (h : St H w (obj g T cs :: L)) (hx : Ev N ρ x (.pointer (some ⟨g, i, none⟩))) (hy : Ev N ρ y v) (hsz : v.cells.size = 4) (hl : i + 4 ≤ cs.length) (h1 : ∀ u ∈ v.cells.toList, u.oneCell' = true) (hsp : splice cs i v.cells.toList = cs') : ∃ w', Ex0 Try.prog N ρ w (.store 38 x y) ty w' ∧ St H w' (obj g T cs' :: L) := by
  obtain ⟨i0, e1, _, e3, _⟩ := inf38
  exact m_store e1 h hx hy (by rw [e3]; exact hsz) (by rw [e3]; exact hl) h1 hsp
theorem stor38 {N : Nat} {ρ : Nat → Value} {H : Hp} {w : World} {L : List Res} {g e size n cap ty i : Nat} {x y : Operand} {xs xs' : List Value} {v u : Value} (h : St H w (row e size v n xs :: L)) (hv : v = .slice (some ⟨g, 0, none⟩) n cap) (hx : Ev N ρ x (.pointer (some ⟨g, i, none⟩))) (hy : Ev N ρ y u) (hsz : u.cells.size = 4) (hl : i + 4 ≤ xs.length) (h1 : ∀ u' ∈ u.cells.toList, u'.oneCell' = true) (hsp : splice xs i u.cells.toList = xs') : ∃ w', Ex0 Try.prog N ρ w (.store 38 x y) ty w' ∧ St H w' (row e size v n xs' :: L) := by
  obtain ⟨i0, e1, _, e3, _⟩ := inf38
  exact m_storeRow e1 h hv hx hy (by rw [e3]; exact hsz) (by rw [e3]; exact hl) h1 hsp
theorem al38 {N : Nat} {ρ : Nat → Value} {H : Hp} {w : World} {L : List Res} {ty : Nat} {cs : List Value} (h : St H w L) (hv : (.agg #[.int .u64 0, .int .i64 0, .int .i64 0, .slice none 0 0] : Value).cells = cs.toArray) : ∃ v' w', Ex Try.prog N ρ w (.alloc 38) ty v' w' ∧ ∃ g, v' = .pointer (some ⟨g, 0, none⟩) ∧ St H w' (obj g 38 cs :: L) := by
  obtain ⟨i0, e1, e2, _, _⟩ := inf38
  exact m_alloc e1 e2 h hv
theorem sc40 : scalarT Try.prog 40 = true := by kernel_rfl
theorem ld40 {N : Nat} {ρ : Nat → Value} {w : World} {ty : Nat} {x : Operand} {ad : Addr} {v : Value} (hx : Ev N ρ x (.pointer (some ad))) (hc : w.cell? ad = some v) : Ex Try.prog N ρ w (.load 40 x) ty v w := x_load sc40 hx hc
theorem sto40 {N : Nat} {ρ : Nat → Value} {H : Hp} {w : World} {L : List Res} {g T ty i : Nat} {x y : Operand} {cs cs' : List Value} {v : Value} (h : St H w (obj g T cs :: L)) (hx : Ev N ρ x (.pointer (some ⟨g, i, none⟩))) (hy : Ev N ρ y v) (hsz : v.cells.size = 1) (hl : i + 1 ≤ cs.length) (h1 : ∀ u ∈ v.cells.toList, u.oneCell' = true) (hsp : splice cs i v.cells.toList = cs') : ∃ w', Ex0 Try.prog N ρ w (.store 40 x y) ty w' ∧ St H w' (obj g T cs' :: L) := by
  obtain ⟨i0, e1, _, e3, _⟩ := inf40
  exact m_store e1 h hx hy (by rw [e3]; exact hsz) (by rw [e3]; exact hl) h1 hsp
theorem stor40 {N : Nat} {ρ : Nat → Value} {H : Hp} {w : World} {L : List Res} {g e size n cap ty i : Nat} {x y : Operand} {xs xs' : List Value} {v u : Value} (h : St H w (row e size v n xs :: L)) (hv : v = .slice (some ⟨g, 0, none⟩) n cap) (hx : Ev N ρ x (.pointer (some ⟨g, i, none⟩))) (hy : Ev N ρ y u) (hsz : u.cells.size = 1) (hl : i + 1 ≤ xs.length) (h1 : ∀ u' ∈ u.cells.toList, u'.oneCell' = true) (hsp : splice xs i u.cells.toList = xs') : ∃ w', Ex0 Try.prog N ρ w (.store 40 x y) ty w' ∧ St H w' (row e size v n xs' :: L) := by
  obtain ⟨i0, e1, _, e3, _⟩ := inf40
  exact m_storeRow e1 h hv hx hy (by rw [e3]; exact hsz) (by rw [e3]; exact hl) h1 hsp
theorem al40 {N : Nat} {ρ : Nat → Value} {H : Hp} {w : World} {L : List Res} {ty : Nat} {cs : List Value} (h : St H w L) (hv : (.slice none 0 0 : Value).cells = cs.toArray) : ∃ v' w', Ex Try.prog N ρ w (.alloc 40) ty v' w' ∧ ∃ g, v' = .pointer (some ⟨g, 0, none⟩) ∧ St H w' (obj g 40 cs :: L) := by
  obtain ⟨i0, e1, e2, _, _⟩ := inf40
  exact m_alloc e1 e2 h hv
theorem ag47 : aggT Try.prog 47 = true := by kernel_rfl
theorem ld47 {N : Nat} {ρ : Nat → Value} {w : World} {ty : Nat} {x : Operand} {ad : Addr} {cs : List Value} (hx : Ev N ρ x (.pointer (some ad))) (hc : At w ad cs) (hl : cs.length = 2) : Ex Try.prog N ρ w (.load 47 x) ty (.agg cs.toArray) w := by
  obtain ⟨i0, h1, _, h3, _⟩ := inf47
  exact x_loadA ag47 h1 hx hc (by rw [h3]; exact hl)
theorem lv47 {w : World} {ad : Addr} {cs : List Value} (hc : At w ad cs) (hl : cs.length = 2) : (loadVar 47 ad).run Try.prog w = .ok (.agg cs.toArray) w := by
  obtain ⟨i0, h1, _, h3, _⟩ := inf47
  exact run_loadVar_t ag47 h1 hc (by rw [h3]; exact hl)
theorem sto47 {N : Nat} {ρ : Nat → Value} {H : Hp} {w : World} {L : List Res} {g T ty i : Nat} {x y : Operand} {cs cs' : List Value} {v : Value} (h : St H w (obj g T cs :: L)) (hx : Ev N ρ x (.pointer (some ⟨g, i, none⟩))) (hy : Ev N ρ y v) (hsz : v.cells.size = 2) (hl : i + 2 ≤ cs.length) (h1 : ∀ u ∈ v.cells.toList, u.oneCell' = true) (hsp : splice cs i v.cells.toList = cs') : ∃ w', Ex0 Try.prog N ρ w (.store 47 x y) ty w' ∧ St H w' (obj g T cs' :: L) := by
  obtain ⟨i0, e1, _, e3, _⟩ := inf47
  exact m_store e1 h hx hy (by rw [e3]; exact hsz) (by rw [e3]; exact hl) h1 hsp
theorem stor47 {N : Nat} {ρ : Nat → Value} {H : Hp} {w : World} {L : List Res} {g e size n cap ty i : Nat} {x y : Operand} {xs xs' : List Value} {v u : Value} (h : St H w (row e size v n xs :: L)) (hv : v = .slice (some ⟨g, 0, none⟩) n cap) (hx : Ev N ρ x (.pointer (some ⟨g, i, none⟩))) (hy : Ev N ρ y u) (hsz : u.cells.size = 2) (hl : i + 2 ≤ xs.length) (h1 : ∀ u' ∈ u.cells.toList, u'.oneCell' = true) (hsp : splice xs i u.cells.toList = xs') : ∃ w', Ex0 Try.prog N ρ w (.store 47 x y) ty w' ∧ St H w' (row e size v n xs' :: L) := by
  obtain ⟨i0, e1, _, e3, _⟩ := inf47
  exact m_storeRow e1 h hv hx hy (by rw [e3]; exact hsz) (by rw [e3]; exact hl) h1 hsp
theorem al47 {N : Nat} {ρ : Nat → Value} {H : Hp} {w : World} {L : List Res} {ty : Nat} {cs : List Value} (h : St H w L) (hv : (.agg #[.int .i64 0, .slice none 0 0] : Value).cells = cs.toArray) : ∃ v' w', Ex Try.prog N ρ w (.alloc 47) ty v' w' ∧ ∃ g, v' = .pointer (some ⟨g, 0, none⟩) ∧ St H w' (obj g 47 cs :: L) := by
  obtain ⟨i0, e1, e2, _, _⟩ := inf47
  exact m_alloc e1 e2 h hv
theorem fa25_0 {N : Nat} {ρ : Nat → Value} {w : World} {ty b o : Nat} {x : Operand} (hx : Ev N ρ x (.pointer (some ⟨b, o, none⟩))) : Ex Try.prog N ρ w (.fieldAddr 25 x 0) ty (.pointer (some ⟨b, o + 0, none⟩)) w := by
  obtain ⟨i0, h1, _, h3, _⟩ := inf23
  have := x_fieldAddr (ty := ty) (w := w) Try.underlying25 (f := 0) rfl h1 (by rw [h3]; decide) hx
  rwa [add_none] at this
theorem fa25_1 {N : Nat} {ρ : Nat → Value} {w : World} {ty b o : Nat} {x : Operand} (hx : Ev N ρ x (.pointer (some ⟨b, o, none⟩))) : Ex Try.prog N ρ w (.fieldAddr 25 x 1) ty (.pointer (some ⟨b, o + 1, none⟩)) w := by
  obtain ⟨i0, h1, _, h3, _⟩ := inf3
  have := x_fieldAddr (ty := ty) (w := w) Try.underlying25 (f := 1) rfl h1 (by rw [h3]; decide) hx
  rwa [add_none] at this
theorem fa38_0 {N : Nat} {ρ : Nat → Value} {w : World} {ty b o : Nat} {x : Operand} (hx : Ev N ρ x (.pointer (some ⟨b, o, none⟩))) : Ex Try.prog N ρ w (.fieldAddr 38 x 0) ty (.pointer (some ⟨b, o + 0, none⟩)) w := by
  obtain ⟨i0, h1, _, h3, _⟩ := inf25
  have := x_fieldAddr (ty := ty) (w := w) Try.underlying38 (f := 0) rfl h1 (by rw [h3]; decide) hx
  rwa [add_none] at this
theorem fa38_1 {N : Nat} {ρ : Nat → Value} {w : World} {ty b o : Nat} {x : Operand} (hx : Ev N ρ x (.pointer (some ⟨b, o, none⟩))) : Ex Try.prog N ρ w (.fieldAddr 38 x 1) ty (.pointer (some ⟨b, o + 2, none⟩)) w := by
  obtain ⟨i0, h1, _, h3, _⟩ := inf3
  have := x_fieldAddr (ty := ty) (w := w) Try.underlying38 (f := 1) rfl h1 (by rw [h3]; decide) hx
  rwa [add_none] at this
theorem fa38_2 {N : Nat} {ρ : Nat → Value} {w : World} {ty b o : Nat} {x : Operand} (hx : Ev N ρ x (.pointer (some ⟨b, o, none⟩))) : Ex Try.prog N ρ w (.fieldAddr 38 x 2) ty (.pointer (some ⟨b, o + 3, none⟩)) w := by
  obtain ⟨i0, h1, _, h3, _⟩ := inf29
  have := x_fieldAddr (ty := ty) (w := w) Try.underlying38 (f := 2) rfl h1 (by rw [h3]; decide) hx
  rwa [add_none] at this
theorem fa47_0 {N : Nat} {ρ : Nat → Value} {w : World} {ty b o : Nat} {x : Operand} (hx : Ev N ρ x (.pointer (some ⟨b, o, none⟩))) : Ex Try.prog N ρ w (.fieldAddr 47 x 0) ty (.pointer (some ⟨b, o + 0, none⟩)) w := by
  obtain ⟨i0, h1, _, h3, _⟩ := inf3
  have := x_fieldAddr (ty := ty) (w := w) Try.underlying47 (f := 0) rfl h1 (by rw [h3]; decide) hx
  rwa [add_none] at this
theorem fa47_1 {N : Nat} {ρ : Nat → Value} {w : World} {ty b o : Nat} {x : Operand} (hx : Ev N ρ x (.pointer (some ⟨b, o, none⟩))) : Ex Try.prog N ρ w (.fieldAddr 47 x 1) ty (.pointer (some ⟨b, o + 1, none⟩)) w := by
  obtain ⟨i0, h1, _, h3, _⟩ := inf40
  have := x_fieldAddr (ty := ty) (w := w) Try.underlying47 (f := 1) rfl h1 (by rw [h3]; decide) hx
  rwa [add_none] at this
theorem ix22 {N : Nat} {ρ : Nat → Value} {w : World} {ty b o n c : Nat} {A : Option Addr} {x y : Operand} {k : IntKind} {i : Int} (hx : Ev N ρ x (.slice A n c)) (hA : A = some ⟨b, o, none⟩) (hy : Ev N ρ y (.int k i)) (h0 : 0 ≤ i) (h1 : i < n) : Ex Try.prog N ρ w (.indexAddr 22 x y) ty (.pointer (some ⟨b, o + i.toNat * 4, none⟩)) w := by
  obtain ⟨i0, e1, _, e3, _⟩ := inf38
  subst hA
  have := x_indexAddr (ty := ty) (w := w) Try.underlying22 e1 hx hy h0 h1
  rwa [add_none, e3] at this
theorem ixo22 {N : Nat} {ρ : Nat → Value} {w : World} {ty b o o' n c : Nat} {A : Option Addr} {x y : Operand} {k : IntKind} {i : Int} (hx : Ev N ρ x (.slice A n c)) (hA : A = some ⟨b, o, none⟩) (hy : Ev N ρ y (.int k i)) (h0 : 0 ≤ i) (h1 : i < n) (ho : o + i.toNat * 4 = o') : Ex Try.prog N ρ w (.indexAddr 22 x y) ty (.pointer (some ⟨b, o', none⟩)) w := by
  subst ho
  exact ix22 hx hA hy h0 h1
theorem ix29 {N : Nat} {ρ : Nat → Value} {w : World} {ty b o n c : Nat} {A : Option Addr} {x y : Operand} {k : IntKind} {i : Int} (hx : Ev N ρ x (.slice A n c)) (hA : A = some ⟨b, o, none⟩) (hy : Ev N ρ y (.int k i)) (h0 : 0 ≤ i) (h1 : i < n) : Ex Try.prog N ρ w (.indexAddr 29 x y) ty (.pointer (some ⟨b, o + i.toNat * 2, none⟩)) w := by
  obtain ⟨i0, e1, _, e3, _⟩ := inf47
  subst hA
  have := x_indexAddr (ty := ty) (w := w) Try.underlying29 e1 hx hy h0 h1
  rwa [add_none, e3] at this
theorem ixo29 {N : Nat} {ρ : Nat → Value} {w : World} {ty b o o' n c : Nat} {A : Option Addr} {x y : Operand} {k : IntKind} {i : Int} (hx : Ev N ρ x (.slice A n c)) (hA : A = some ⟨b, o, none⟩) (hy : Ev N ρ y (.int k i)) (h0 : 0 ≤ i) (h1 : i < n) (ho : o + i.toNat * 2 = o') : Ex Try.prog N ρ w (.indexAddr 29 x y) ty (.pointer (some ⟨b, o', none⟩)) w := by
  subst ho
  exact ix29 hx hA hy h0 h1
theorem bl25 {N : Nat} {ρ : Nat → Value} {w : World} {ty : Nat} {parts : List (Nat × Operand)} {ps : List (Nat × Value)} {cs : List Value} (hps : Evp N ρ parts ps) (hf : fillL (([(0, 1), (1, 1)] : List (Nat × Nat))[·]?) [.int .u64 0, .int .i64 0] ps = some cs) : Ex Try.prog N ρ w (.build 25 parts.toArray) ty (.agg cs.toArray) w :=
  x_bld (places := [(0, 1), (1, 1)]) Try.underlying25 inf25 hps (by kernel_rfl) hf
theorem bl38 {N : Nat} {ρ : Nat → Value} {w : World} {ty : Nat} {parts : List (Nat × Operand)} {ps : List (Nat × Value)} {cs : List Value} (hps : Evp N ρ parts ps) (hf : fillL (([(0, 2), (2, 1), (3, 1)] : List (Nat × Nat))[·]?) [.int .u64 0, .int .i64 0, .int .i64 0, .slice none 0 0] ps = some cs) : Ex Try.prog N ρ w (.build 38 parts.toArray) ty (.agg cs.toArray) w :=
  x_bld (places := [(0, 2), (2, 1), (3, 1)]) Try.underlying38 inf38 hps (by kernel_rfl) hf
theorem bl47 {N : Nat} {ρ : Nat → Value} {w : World} {ty : Nat} {parts : List (Nat × Operand)} {ps : List (Nat × Value)} {cs : List Value} (hps : Evp N ρ parts ps) (hf : fillL (([(0, 1), (1, 1)] : List (Nat × Nat))[·]?) [.int .i64 0, .slice none 0 0] ps = some cs) : Ex Try.prog N ρ w (.build 47 parts.toArray) ty (.agg cs.toArray) w :=
  x_bld (places := [(0, 1), (1, 1)]) Try.underlying47 inf47 hps (by kernel_rfl) hf
theorem eqs25 (d : Nat) (w : World) (x0 y0 : Int) (x1 y1 : Int) : (Op.equalIn (d + 2) 25 (.agg #[.int .u64 x0, .int .i64 x1]) (.agg #[.int .u64 y0, .int .i64 y1])).run Try.prog w = .ok (((x0 == y0) && ((x1 == y1) && true))) w := by
  exact eq_struct (d := d + 1) Try.underlying25 (by kernel_rfl) (.cons (by kernel_rfl) (part_one (by kernel_rfl) rfl) (part_one (by kernel_rfl) rfl) (eq_int' (d := d + 0) Try.underlying23 _ _) (.cons (by kernel_rfl) (part_one (by kernel_rfl) rfl) (part_one (by kernel_rfl) rfl) (eq_int' (d := d + 0) Try.underlying3 _ _) EqF.nil))
theorem eqg25 : Try.prog.eqGuardType Try.prog.depth 25 = false := by kernel_rfl
theorem cb10 : Cb Try.prog 10 := ⟨Try.f10, Try.func10, by kernel_rfl, by kernel_rfl⟩
theorem cb11 : Cb Try.prog 11 := ⟨Try.f11, Try.func11, by kernel_rfl, by kernel_rfl⟩
theorem cb12 : Cb Try.prog 12 := ⟨Try.f12, Try.func12, by kernel_rfl, by kernel_rfl⟩
theorem cb13 : Cb Try.prog 13 := ⟨Try.f13, Try.func13, by kernel_rfl, by kernel_rfl⟩
theorem cb14 : Cb Try.prog 14 := ⟨Try.f14, Try.func14, by kernel_rfl, by kernel_rfl⟩
theorem cb15 : Cb Try.prog 15 := ⟨Try.f15, Try.func15, by kernel_rfl, by kernel_rfl⟩
theorem cb16 : Cb Try.prog 16 := ⟨Try.f16, Try.func16, by kernel_rfl, by kernel_rfl⟩
theorem cb21 : Cb Try.prog 21 := ⟨Try.f21, Try.func21, by kernel_rfl, by kernel_rfl⟩
theorem cb22 : Cb Try.prog 22 := ⟨Try.f22, Try.func22, by kernel_rfl, by kernel_rfl⟩
theorem cb23 : Cb Try.prog 23 := ⟨Try.f23, Try.func23, by kernel_rfl, by kernel_rfl⟩
theorem cb24 : Cb Try.prog 24 := ⟨Try.f24, Try.func24, by kernel_rfl, by kernel_rfl⟩
theorem cb25 : Cb Try.prog 25 := ⟨Try.f25, Try.func25, by kernel_rfl, by kernel_rfl⟩
theorem cb36 : Cb Try.prog 36 := ⟨Try.f36, Try.func36, by kernel_rfl, by kernel_rfl⟩
theorem cb37 : Cb Try.prog 37 := ⟨Try.f37, Try.func37, by kernel_rfl, by kernel_rfl⟩
theorem cb41 : Cb Try.prog 41 := ⟨Try.f41, Try.func41, by kernel_rfl, by kernel_rfl⟩
theorem cb42 : Cb Try.prog 42 := ⟨Try.f42, Try.func42, by kernel_rfl, by kernel_rfl⟩
end Go.Proofs.Ytkbllbphkdnmbaa
