/- Steps of the proofs over the functions of this seat, printed by a program (gen.py) and checked by Lean. -/
import Derived.Test.YtlfihfmmhhcigaaProg
import Derived.Test.YtlfihfmmhhcigaaW00
import Derived.Test.YtlfihfmmhhcigaaW01
import Derived.Lib.AppendZerosOnto
import Derived.Lib.Overlaps
set_option linter.unusedVariables false
set_option linter.unusedSimpArgs false
namespace Go.Proofs.Ytlfihfmmhhcigaa
open Go Go.FM Go.Proofs
set_option maxRecDepth 100000
theorem mixed:Try.prog.follows .mixedOrders = true:=by kernel_rfl
theorem inf3:Inf Try.prog 3 (.int .i64 0) 1 8:=Inf.mk (by kernel_rfl)
theorem inf4:Inf Try.prog 4 (.bool false) 1 1:=Inf.mk (by kernel_rfl)
theorem inf5:Inf Try.prog 5 (.int .u8 0) 1 1:=Inf.mk (by kernel_rfl)
theorem inf22:Inf Try.prog 22 (.int .u64 0) 1 8:=Inf.mk (by kernel_rfl)
theorem inf24:Inf Try.prog 24 (.agg #[.int .u64 0,.int .i64 0]) 2 16:=Inf.mk (by kernel_rfl)
theorem inf25:Inf Try.prog 25 (.int .u16 0) 1 2:=Inf.mk (by kernel_rfl)
theorem inf26:Inf Try.prog 26 (.slice none 0 0) 1 24:=Inf.mk (by kernel_rfl)
theorem inf27:Inf Try.prog 27 (.slice none 0 0) 1 24:=Inf.mk (by kernel_rfl)
theorem inf28:Inf Try.prog 28 (.slice none 0 0) 1 24:=Inf.mk (by kernel_rfl)
theorem inf30:Inf Try.prog 30 (.agg #[.int .u8 0,.int .i64 0,.int .u64 0,.int .i64 0,.int .u16 0,.int .u64 0,.int .i64 0,.int .u64 0,.int .i64 0,.slice none 0 0,.int .u64 0,.slice none 0 0,.slice none 0 0,.int .u64 0,.int .u64 0]) 15 168:=Inf.mk (by kernel_rfl)
theorem inf33:Inf Try.prog 33 (.slice none 0 0) 1 24:=Inf.mk (by kernel_rfl)
theorem inf49:Inf Try.prog 49 (.agg #[.int .i64 0,.slice none 0 0]) 2 32:=Inf.mk (by kernel_rfl)
theorem inf52:Inf Try.prog 52 (.agg #[.int .u64 0,.int .i64 0,.int .i64 0,.slice none 0 0]) 4 48:=Inf.mk (by kernel_rfl)
theorem inf58:Inf Try.prog 58 (.agg #[.slice none 0 0,.bool false]) 2 32:=Inf.mk (by kernel_rfl)
theorem inf95:Inf Try.prog 95 (.agg #[.int .u8 0,.int .u8 0,.int .u8 0,.int .u8 0]) 4 4:=Inf.mk (by kernel_rfl)
theorem sc3:scalarT Try.prog 3 = true:=by kernel_rfl
theorem ld3 {N:Nat} {ρ:Nat → Value} {w:World} {ty:Nat} {x:Operand} {ad:Addr} {v:Value} (hx:Ev N ρ x (.pointer (some ad))) (hc:w.cell? ad = some v):Ex Try.prog N ρ w (.load 3 x) ty v w:=x_load sc3 hx hc
theorem sc4:scalarT Try.prog 4 = true:=by kernel_rfl
theorem ld4 {N:Nat} {ρ:Nat → Value} {w:World} {ty:Nat} {x:Operand} {ad:Addr} {v:Value} (hx:Ev N ρ x (.pointer (some ad))) (hc:w.cell? ad = some v):Ex Try.prog N ρ w (.load 4 x) ty v w:=x_load sc4 hx hc
theorem sto4 {N:Nat} {ρ:Nat → Value} {H:Hp} {w:World} {L:List Res} {g T ty i:Nat} {x y:Operand} {cs cs':List Value} {v:Value} (h:St H w (obj g T cs::L)) (hx:Ev N ρ x (.pointer (some ⟨g,i,none⟩))) (hy:Ev N ρ y v) (hsz:v.cells.size = 1) (hl:i + 1 ≤ cs.length) (h1:∀ u ∈ v.cells.toList,u.oneCell' = true) (hsp:splice cs i v.cells.toList = cs'):∃ w',Ex0 Try.prog N ρ w (.store 4 x y) ty w'∧St H w' (obj g T cs'::L):=by
  obtain ⟨i0,e1,_,e3,_⟩:=inf4
  exact m_store e1 h hx hy (by rw [e3]; exact hsz) (by rw [e3]; exact hl) h1 hsp
theorem sc5:scalarT Try.prog 5 = true:=by kernel_rfl
theorem ld5 {N:Nat} {ρ:Nat → Value} {w:World} {ty:Nat} {x:Operand} {ad:Addr} {v:Value} (hx:Ev N ρ x (.pointer (some ad))) (hc:w.cell? ad = some v):Ex Try.prog N ρ w (.load 5 x) ty v w:=x_load sc5 hx hc
theorem sc22:scalarT Try.prog 22 = true:=by kernel_rfl
theorem ld22 {N:Nat} {ρ:Nat → Value} {w:World} {ty:Nat} {x:Operand} {ad:Addr} {v:Value} (hx:Ev N ρ x (.pointer (some ad))) (hc:w.cell? ad = some v):Ex Try.prog N ρ w (.load 22 x) ty v w:=x_load sc22 hx hc
theorem ag24:aggT Try.prog 24 = true:=by kernel_rfl
theorem ld24 {N:Nat} {ρ:Nat → Value} {w:World} {ty:Nat} {x:Operand} {ad:Addr} {cs:List Value} (hx:Ev N ρ x (.pointer (some ad))) (hc:At w ad cs) (hl:cs.length = 2):Ex Try.prog N ρ w (.load 24 x) ty (.agg cs.toArray) w:=by
  obtain ⟨i0,h1,_,h3,_⟩:=inf24
  exact x_loadA ag24 h1 hx hc (by rw [h3]; exact hl)
theorem sto24 {N:Nat} {ρ:Nat → Value} {H:Hp} {w:World} {L:List Res} {g T ty i:Nat} {x y:Operand} {cs cs':List Value} {v:Value} (h:St H w (obj g T cs::L)) (hx:Ev N ρ x (.pointer (some ⟨g,i,none⟩))) (hy:Ev N ρ y v) (hsz:v.cells.size = 2) (hl:i + 2 ≤ cs.length) (h1:∀ u ∈ v.cells.toList,u.oneCell' = true) (hsp:splice cs i v.cells.toList = cs'):∃ w',Ex0 Try.prog N ρ w (.store 24 x y) ty w'∧St H w' (obj g T cs'::L):=by
  obtain ⟨i0,e1,_,e3,_⟩:=inf24
  exact m_store e1 h hx hy (by rw [e3]; exact hsz) (by rw [e3]; exact hl) h1 hsp
theorem al24 {N:Nat} {ρ:Nat → Value} {H:Hp} {w:World} {L:List Res} {ty:Nat} {cs:List Value} (h:St H w L) (hv:(.agg #[.int .u64 0,.int .i64 0]:Value).cells = cs.toArray):∃ v' w',Ex Try.prog N ρ w (.alloc 24) ty v' w'∧∃ g,v' = .pointer (some ⟨g,0,none⟩)∧St H w' (obj g 24 cs::L):=by
  obtain ⟨i0,e1,e2,_,_⟩:=inf24
  exact m_alloc e1 e2 h hv
theorem sc25:scalarT Try.prog 25 = true:=by kernel_rfl
theorem ld25 {N:Nat} {ρ:Nat → Value} {w:World} {ty:Nat} {x:Operand} {ad:Addr} {v:Value} (hx:Ev N ρ x (.pointer (some ad))) (hc:w.cell? ad = some v):Ex Try.prog N ρ w (.load 25 x) ty v w:=x_load sc25 hx hc
theorem sc26:scalarT Try.prog 26 = true:=by kernel_rfl
theorem ld26 {N:Nat} {ρ:Nat → Value} {w:World} {ty:Nat} {x:Operand} {ad:Addr} {v:Value} (hx:Ev N ρ x (.pointer (some ad))) (hc:w.cell? ad = some v):Ex Try.prog N ρ w (.load 26 x) ty v w:=x_load sc26 hx hc
theorem sc27:scalarT Try.prog 27 = true:=by kernel_rfl
theorem ld27 {N:Nat} {ρ:Nat → Value} {w:World} {ty:Nat} {x:Operand} {ad:Addr} {v:Value} (hx:Ev N ρ x (.pointer (some ad))) (hc:w.cell? ad = some v):Ex Try.prog N ρ w (.load 27 x) ty v w:=x_load sc27 hx hc
theorem sc28:scalarT Try.prog 28 = true:=by kernel_rfl
theorem ld28 {N:Nat} {ρ:Nat → Value} {w:World} {ty:Nat} {x:Operand} {ad:Addr} {v:Value} (hx:Ev N ρ x (.pointer (some ad))) (hc:w.cell? ad = some v):Ex Try.prog N ρ w (.load 28 x) ty v w:=x_load sc28 hx hc
theorem ag30:aggT Try.prog 30 = true:=by kernel_rfl
theorem ld30 {N:Nat} {ρ:Nat → Value} {w:World} {ty:Nat} {x:Operand} {ad:Addr} {cs:List Value} (hx:Ev N ρ x (.pointer (some ad))) (hc:At w ad cs) (hl:cs.length = 15):Ex Try.prog N ρ w (.load 30 x) ty (.agg cs.toArray) w:=by
  obtain ⟨i0,h1,_,h3,_⟩:=inf30
  exact x_loadA ag30 h1 hx hc (by rw [h3]; exact hl)
theorem sc33:scalarT Try.prog 33 = true:=by kernel_rfl
theorem ld33 {N:Nat} {ρ:Nat → Value} {w:World} {ty:Nat} {x:Operand} {ad:Addr} {v:Value} (hx:Ev N ρ x (.pointer (some ad))) (hc:w.cell? ad = some v):Ex Try.prog N ρ w (.load 33 x) ty v w:=x_load sc33 hx hc
theorem sto33 {N:Nat} {ρ:Nat → Value} {H:Hp} {w:World} {L:List Res} {g T ty i:Nat} {x y:Operand} {cs cs':List Value} {v:Value} (h:St H w (obj g T cs::L)) (hx:Ev N ρ x (.pointer (some ⟨g,i,none⟩))) (hy:Ev N ρ y v) (hsz:v.cells.size = 1) (hl:i + 1 ≤ cs.length) (h1:∀ u ∈ v.cells.toList,u.oneCell' = true) (hsp:splice cs i v.cells.toList = cs'):∃ w',Ex0 Try.prog N ρ w (.store 33 x y) ty w'∧St H w' (obj g T cs'::L):=by
  obtain ⟨i0,e1,_,e3,_⟩:=inf33
  exact m_store e1 h hx hy (by rw [e3]; exact hsz) (by rw [e3]; exact hl) h1 hsp
theorem ag49:aggT Try.prog 49 = true:=by kernel_rfl
theorem ld49 {N:Nat} {ρ:Nat → Value} {w:World} {ty:Nat} {x:Operand} {ad:Addr} {cs:List Value} (hx:Ev N ρ x (.pointer (some ad))) (hc:At w ad cs) (hl:cs.length = 2):Ex Try.prog N ρ w (.load 49 x) ty (.agg cs.toArray) w:=by
  obtain ⟨i0,h1,_,h3,_⟩:=inf49
  exact x_loadA ag49 h1 hx hc (by rw [h3]; exact hl)
theorem sto49 {N:Nat} {ρ:Nat → Value} {H:Hp} {w:World} {L:List Res} {g T ty i:Nat} {x y:Operand} {cs cs':List Value} {v:Value} (h:St H w (obj g T cs::L)) (hx:Ev N ρ x (.pointer (some ⟨g,i,none⟩))) (hy:Ev N ρ y v) (hsz:v.cells.size = 2) (hl:i + 2 ≤ cs.length) (h1:∀ u ∈ v.cells.toList,u.oneCell' = true) (hsp:splice cs i v.cells.toList = cs'):∃ w',Ex0 Try.prog N ρ w (.store 49 x y) ty w'∧St H w' (obj g T cs'::L):=by
  obtain ⟨i0,e1,_,e3,_⟩:=inf49
  exact m_store e1 h hx hy (by rw [e3]; exact hsz) (by rw [e3]; exact hl) h1 hsp
theorem al49 {N:Nat} {ρ:Nat → Value} {H:Hp} {w:World} {L:List Res} {ty:Nat} {cs:List Value} (h:St H w L) (hv:(.agg #[.int .i64 0,.slice none 0 0]:Value).cells = cs.toArray):∃ v' w',Ex Try.prog N ρ w (.alloc 49) ty v' w'∧∃ g,v' = .pointer (some ⟨g,0,none⟩)∧St H w' (obj g 49 cs::L):=by
  obtain ⟨i0,e1,e2,_,_⟩:=inf49
  exact m_alloc e1 e2 h hv
theorem ag52:aggT Try.prog 52 = true:=by kernel_rfl
theorem ld52 {N:Nat} {ρ:Nat → Value} {w:World} {ty:Nat} {x:Operand} {ad:Addr} {cs:List Value} (hx:Ev N ρ x (.pointer (some ad))) (hc:At w ad cs) (hl:cs.length = 4):Ex Try.prog N ρ w (.load 52 x) ty (.agg cs.toArray) w:=by
  obtain ⟨i0,h1,_,h3,_⟩:=inf52
  exact x_loadA ag52 h1 hx hc (by rw [h3]; exact hl)
theorem sto52 {N:Nat} {ρ:Nat → Value} {H:Hp} {w:World} {L:List Res} {g T ty i:Nat} {x y:Operand} {cs cs':List Value} {v:Value} (h:St H w (obj g T cs::L)) (hx:Ev N ρ x (.pointer (some ⟨g,i,none⟩))) (hy:Ev N ρ y v) (hsz:v.cells.size = 4) (hl:i + 4 ≤ cs.length) (h1:∀ u ∈ v.cells.toList,u.oneCell' = true) (hsp:splice cs i v.cells.toList = cs'):∃ w',Ex0 Try.prog N ρ w (.store 52 x y) ty w'∧St H w' (obj g T cs'::L):=by
  obtain ⟨i0,e1,_,e3,_⟩:=inf52
  exact m_store e1 h hx hy (by rw [e3]; exact hsz) (by rw [e3]; exact hl) h1 hsp
theorem al52 {N:Nat} {ρ:Nat → Value} {H:Hp} {w:World} {L:List Res} {ty:Nat} {cs:List Value} (h:St H w L) (hv:(.agg #[.int .u64 0,.int .i64 0,.int .i64 0,.slice none 0 0]:Value).cells = cs.toArray):∃ v' w',Ex Try.prog N ρ w (.alloc 52) ty v' w'∧∃ g,v' = .pointer (some ⟨g,0,none⟩)∧St H w' (obj g 52 cs::L):=by
  obtain ⟨i0,e1,e2,_,_⟩:=inf52
  exact m_alloc e1 e2 h hv
theorem ag95:aggT Try.prog 95 = true:=by kernel_rfl
theorem lv95 {w:World} {ad:Addr} {cs:List Value} (hc:At w ad cs) (hl:cs.length = 4):(loadVar 95 ad).run Try.prog w = .ok (.agg cs.toArray) w:=by
  obtain ⟨i0,h1,_,h3,_⟩:=inf95
  exact run_loadVar_t ag95 h1 hc (by rw [h3]; exact hl)
theorem sto95 {N:Nat} {ρ:Nat → Value} {H:Hp} {w:World} {L:List Res} {g T ty i:Nat} {x y:Operand} {cs cs':List Value} {v:Value} (h:St H w (obj g T cs::L)) (hx:Ev N ρ x (.pointer (some ⟨g,i,none⟩))) (hy:Ev N ρ y v) (hsz:v.cells.size = 4) (hl:i + 4 ≤ cs.length) (h1:∀ u ∈ v.cells.toList,u.oneCell' = true) (hsp:splice cs i v.cells.toList = cs'):∃ w',Ex0 Try.prog N ρ w (.store 95 x y) ty w'∧St H w' (obj g T cs'::L):=by
  obtain ⟨i0,e1,_,e3,_⟩:=inf95
  exact m_store e1 h hx hy (by rw [e3]; exact hsz) (by rw [e3]; exact hl) h1 hsp
theorem al95 {N:Nat} {ρ:Nat → Value} {H:Hp} {w:World} {L:List Res} {ty:Nat} {cs:List Value} (h:St H w L) (hv:(.agg #[.int .u8 0,.int .u8 0,.int .u8 0,.int .u8 0]:Value).cells = cs.toArray):∃ v' w',Ex Try.prog N ρ w (.alloc 95) ty v' w'∧∃ g,v' = .pointer (some ⟨g,0,none⟩)∧St H w' (obj g 95 cs::L):=by
  obtain ⟨i0,e1,e2,_,_⟩:=inf95
  exact m_alloc e1 e2 h hv
theorem fa24_0 {N:Nat} {ρ:Nat → Value} {w:World} {ty b o:Nat} {x:Operand} (hx:Ev N ρ x (.pointer (some ⟨b,o,none⟩))):Ex Try.prog N ρ w (.fieldAddr 24 x 0) ty (.pointer (some ⟨b,o + 0,none⟩)) w:=by
  obtain ⟨i0,h1,_,h3,_⟩:=inf22
  have:=x_fieldAddr (ty:=ty) (w:=w) Try.underlying24 (f:=0) rfl h1 (by rw [h3]; decide) hx
  rwa [add_none] at this
theorem fa24_1 {N:Nat} {ρ:Nat → Value} {w:World} {ty b o:Nat} {x:Operand} (hx:Ev N ρ x (.pointer (some ⟨b,o,none⟩))):Ex Try.prog N ρ w (.fieldAddr 24 x 1) ty (.pointer (some ⟨b,o + 1,none⟩)) w:=by
  obtain ⟨i0,h1,_,h3,_⟩:=inf3
  have:=x_fieldAddr (ty:=ty) (w:=w) Try.underlying24 (f:=1) rfl h1 (by rw [h3]; decide) hx
  rwa [add_none] at this
theorem fa30_0 {N:Nat} {ρ:Nat → Value} {w:World} {ty b o:Nat} {x:Operand} (hx:Ev N ρ x (.pointer (some ⟨b,o,none⟩))):Ex Try.prog N ρ w (.fieldAddr 30 x 0) ty (.pointer (some ⟨b,o + 0,none⟩)) w:=by
  obtain ⟨i0,h1,_,h3,_⟩:=inf5
  have:=x_fieldAddr (ty:=ty) (w:=w) Try.underlying30 (f:=0) rfl h1 (by rw [h3]; decide) hx
  rwa [add_none] at this
theorem fa30_1 {N:Nat} {ρ:Nat → Value} {w:World} {ty b o:Nat} {x:Operand} (hx:Ev N ρ x (.pointer (some ⟨b,o,none⟩))):Ex Try.prog N ρ w (.fieldAddr 30 x 1) ty (.pointer (some ⟨b,o + 1,none⟩)) w:=by
  obtain ⟨i0,h1,_,h3,_⟩:=inf3
  have:=x_fieldAddr (ty:=ty) (w:=w) Try.underlying30 (f:=1) rfl h1 (by rw [h3]; decide) hx
  rwa [add_none] at this
theorem fa30_2 {N:Nat} {ρ:Nat → Value} {w:World} {ty b o:Nat} {x:Operand} (hx:Ev N ρ x (.pointer (some ⟨b,o,none⟩))):Ex Try.prog N ρ w (.fieldAddr 30 x 2) ty (.pointer (some ⟨b,o + 2,none⟩)) w:=by
  obtain ⟨i0,h1,_,h3,_⟩:=inf24
  have:=x_fieldAddr (ty:=ty) (w:=w) Try.underlying30 (f:=2) rfl h1 (by rw [h3]; decide) hx
  rwa [add_none] at this
theorem fa30_3 {N:Nat} {ρ:Nat → Value} {w:World} {ty b o:Nat} {x:Operand} (hx:Ev N ρ x (.pointer (some ⟨b,o,none⟩))):Ex Try.prog N ρ w (.fieldAddr 30 x 3) ty (.pointer (some ⟨b,o + 4,none⟩)) w:=by
  obtain ⟨i0,h1,_,h3,_⟩:=inf25
  have:=x_fieldAddr (ty:=ty) (w:=w) Try.underlying30 (f:=3) rfl h1 (by rw [h3]; decide) hx
  rwa [add_none] at this
theorem fa30_4 {N:Nat} {ρ:Nat → Value} {w:World} {ty b o:Nat} {x:Operand} (hx:Ev N ρ x (.pointer (some ⟨b,o,none⟩))):Ex Try.prog N ρ w (.fieldAddr 30 x 4) ty (.pointer (some ⟨b,o + 5,none⟩)) w:=by
  obtain ⟨i0,h1,_,h3,_⟩:=inf24
  have:=x_fieldAddr (ty:=ty) (w:=w) Try.underlying30 (f:=4) rfl h1 (by rw [h3]; decide) hx
  rwa [add_none] at this
theorem fa30_5 {N:Nat} {ρ:Nat → Value} {w:World} {ty b o:Nat} {x:Operand} (hx:Ev N ρ x (.pointer (some ⟨b,o,none⟩))):Ex Try.prog N ρ w (.fieldAddr 30 x 5) ty (.pointer (some ⟨b,o + 7,none⟩)) w:=by
  obtain ⟨i0,h1,_,h3,_⟩:=inf24
  have:=x_fieldAddr (ty:=ty) (w:=w) Try.underlying30 (f:=5) rfl h1 (by rw [h3]; decide) hx
  rwa [add_none] at this
theorem fa30_6 {N:Nat} {ρ:Nat → Value} {w:World} {ty b o:Nat} {x:Operand} (hx:Ev N ρ x (.pointer (some ⟨b,o,none⟩))):Ex Try.prog N ρ w (.fieldAddr 30 x 6) ty (.pointer (some ⟨b,o + 9,none⟩)) w:=by
  obtain ⟨i0,h1,_,h3,_⟩:=inf26
  have:=x_fieldAddr (ty:=ty) (w:=w) Try.underlying30 (f:=6) rfl h1 (by rw [h3]; decide) hx
  rwa [add_none] at this
theorem fa30_7 {N:Nat} {ρ:Nat → Value} {w:World} {ty b o:Nat} {x:Operand} (hx:Ev N ρ x (.pointer (some ⟨b,o,none⟩))):Ex Try.prog N ρ w (.fieldAddr 30 x 7) ty (.pointer (some ⟨b,o + 10,none⟩)) w:=by
  obtain ⟨i0,h1,_,h3,_⟩:=inf22
  have:=x_fieldAddr (ty:=ty) (w:=w) Try.underlying30 (f:=7) rfl h1 (by rw [h3]; decide) hx
  rwa [add_none] at this
theorem fa30_8 {N:Nat} {ρ:Nat → Value} {w:World} {ty b o:Nat} {x:Operand} (hx:Ev N ρ x (.pointer (some ⟨b,o,none⟩))):Ex Try.prog N ρ w (.fieldAddr 30 x 8) ty (.pointer (some ⟨b,o + 11,none⟩)) w:=by
  obtain ⟨i0,h1,_,h3,_⟩:=inf27
  have:=x_fieldAddr (ty:=ty) (w:=w) Try.underlying30 (f:=8) rfl h1 (by rw [h3]; decide) hx
  rwa [add_none] at this
theorem fa30_9 {N:Nat} {ρ:Nat → Value} {w:World} {ty b o:Nat} {x:Operand} (hx:Ev N ρ x (.pointer (some ⟨b,o,none⟩))):Ex Try.prog N ρ w (.fieldAddr 30 x 9) ty (.pointer (some ⟨b,o + 12,none⟩)) w:=by
  obtain ⟨i0,h1,_,h3,_⟩:=inf28
  have:=x_fieldAddr (ty:=ty) (w:=w) Try.underlying30 (f:=9) rfl h1 (by rw [h3]; decide) hx
  rwa [add_none] at this
theorem fa30_10 {N:Nat} {ρ:Nat → Value} {w:World} {ty b o:Nat} {x:Operand} (hx:Ev N ρ x (.pointer (some ⟨b,o,none⟩))):Ex Try.prog N ρ w (.fieldAddr 30 x 10) ty (.pointer (some ⟨b,o + 13,none⟩)) w:=by
  obtain ⟨i0,h1,_,h3,_⟩:=inf22
  have:=x_fieldAddr (ty:=ty) (w:=w) Try.underlying30 (f:=10) rfl h1 (by rw [h3]; decide) hx
  rwa [add_none] at this
theorem fa30_11 {N:Nat} {ρ:Nat → Value} {w:World} {ty b o:Nat} {x:Operand} (hx:Ev N ρ x (.pointer (some ⟨b,o,none⟩))):Ex Try.prog N ρ w (.fieldAddr 30 x 11) ty (.pointer (some ⟨b,o + 14,none⟩)) w:=by
  obtain ⟨i0,h1,_,h3,_⟩:=inf22
  have:=x_fieldAddr (ty:=ty) (w:=w) Try.underlying30 (f:=11) rfl h1 (by rw [h3]; decide) hx
  rwa [add_none] at this
theorem fa49_0 {N:Nat} {ρ:Nat → Value} {w:World} {ty b o:Nat} {x:Operand} (hx:Ev N ρ x (.pointer (some ⟨b,o,none⟩))):Ex Try.prog N ρ w (.fieldAddr 49 x 0) ty (.pointer (some ⟨b,o + 0,none⟩)) w:=by
  obtain ⟨i0,h1,_,h3,_⟩:=inf3
  have:=x_fieldAddr (ty:=ty) (w:=w) Try.underlying49 (f:=0) rfl h1 (by rw [h3]; decide) hx
  rwa [add_none] at this
theorem fa49_1 {N:Nat} {ρ:Nat → Value} {w:World} {ty b o:Nat} {x:Operand} (hx:Ev N ρ x (.pointer (some ⟨b,o,none⟩))):Ex Try.prog N ρ w (.fieldAddr 49 x 1) ty (.pointer (some ⟨b,o + 1,none⟩)) w:=by
  obtain ⟨i0,h1,_,h3,_⟩:=inf33
  have:=x_fieldAddr (ty:=ty) (w:=w) Try.underlying49 (f:=1) rfl h1 (by rw [h3]; decide) hx
  rwa [add_none] at this
theorem fa52_0 {N:Nat} {ρ:Nat → Value} {w:World} {ty b o:Nat} {x:Operand} (hx:Ev N ρ x (.pointer (some ⟨b,o,none⟩))):Ex Try.prog N ρ w (.fieldAddr 52 x 0) ty (.pointer (some ⟨b,o + 0,none⟩)) w:=by
  obtain ⟨i0,h1,_,h3,_⟩:=inf24
  have:=x_fieldAddr (ty:=ty) (w:=w) Try.underlying52 (f:=0) rfl h1 (by rw [h3]; decide) hx
  rwa [add_none] at this
theorem fa52_1 {N:Nat} {ρ:Nat → Value} {w:World} {ty b o:Nat} {x:Operand} (hx:Ev N ρ x (.pointer (some ⟨b,o,none⟩))):Ex Try.prog N ρ w (.fieldAddr 52 x 1) ty (.pointer (some ⟨b,o + 2,none⟩)) w:=by
  obtain ⟨i0,h1,_,h3,_⟩:=inf3
  have:=x_fieldAddr (ty:=ty) (w:=w) Try.underlying52 (f:=1) rfl h1 (by rw [h3]; decide) hx
  rwa [add_none] at this
theorem fa52_2 {N:Nat} {ρ:Nat → Value} {w:World} {ty b o:Nat} {x:Operand} (hx:Ev N ρ x (.pointer (some ⟨b,o,none⟩))):Ex Try.prog N ρ w (.fieldAddr 52 x 2) ty (.pointer (some ⟨b,o + 3,none⟩)) w:=by
  obtain ⟨i0,h1,_,h3,_⟩:=inf28
  have:=x_fieldAddr (ty:=ty) (w:=w) Try.underlying52 (f:=2) rfl h1 (by rw [h3]; decide) hx
  rwa [add_none] at this
theorem fa58_0 {N:Nat} {ρ:Nat → Value} {w:World} {ty b o:Nat} {x:Operand} (hx:Ev N ρ x (.pointer (some ⟨b,o,none⟩))):Ex Try.prog N ρ w (.fieldAddr 58 x 0) ty (.pointer (some ⟨b,o + 0,none⟩)) w:=by
  obtain ⟨i0,h1,_,h3,_⟩:=inf33
  have:=x_fieldAddr (ty:=ty) (w:=w) Try.underlying58 (f:=0) rfl h1 (by rw [h3]; decide) hx
  rwa [add_none] at this
theorem fa58_1 {N:Nat} {ρ:Nat → Value} {w:World} {ty b o:Nat} {x:Operand} (hx:Ev N ρ x (.pointer (some ⟨b,o,none⟩))):Ex Try.prog N ρ w (.fieldAddr 58 x 1) ty (.pointer (some ⟨b,o + 1,none⟩)) w:=by
  obtain ⟨i0,h1,_,h3,_⟩:=inf4
  have:=x_fieldAddr (ty:=ty) (w:=w) Try.underlying58 (f:=1) rfl h1 (by rw [h3]; decide) hx
  rwa [add_none] at this
theorem ix26 {N:Nat} {ρ:Nat → Value} {w:World} {ty b o n c:Nat} {A:Option Addr} {x y:Operand} {k:IntKind} {i:Int} (hx:Ev N ρ x (.slice A n c)) (hA:A = some ⟨b,o,none⟩) (hy:Ev N ρ y (.int k i)) (h0:0 ≤ i) (h1:i < n):Ex Try.prog N ρ w (.indexAddr 26 x y) ty (.pointer (some ⟨b,o + i.toNat * 4,none⟩)) w:=by
  obtain ⟨i0,e1,_,e3,_⟩:=inf52
  subst hA
  have:=x_indexAddr (ty:=ty) (w:=w) Try.underlying26 e1 hx hy h0 h1
  rwa [add_none,e3] at this
theorem ixo26 {N:Nat} {ρ:Nat → Value} {w:World} {ty b o o' n c:Nat} {A:Option Addr} {x y:Operand} {k:IntKind} {i:Int} (hx:Ev N ρ x (.slice A n c)) (hA:A = some ⟨b,o,none⟩) (hy:Ev N ρ y (.int k i)) (h0:0 ≤ i) (h1:i < n) (ho:o + i.toNat * 4 = o'):Ex Try.prog N ρ w (.indexAddr 26 x y) ty (.pointer (some ⟨b,o',none⟩)) w:=by
  subst ho
  exact ix26 hx hA hy h0 h1
theorem ix27 {N:Nat} {ρ:Nat → Value} {w:World} {ty b o n c:Nat} {A:Option Addr} {x y:Operand} {k:IntKind} {i:Int} (hx:Ev N ρ x (.slice A n c)) (hA:A = some ⟨b,o,none⟩) (hy:Ev N ρ y (.int k i)) (h0:0 ≤ i) (h1:i < n):Ex Try.prog N ρ w (.indexAddr 27 x y) ty (.pointer (some ⟨b,o + i.toNat * 1,none⟩)) w:=by
  obtain ⟨i0,e1,_,e3,_⟩:=inf33
  subst hA
  have:=x_indexAddr (ty:=ty) (w:=w) Try.underlying27 e1 hx hy h0 h1
  rwa [add_none,e3] at this
theorem ixo27 {N:Nat} {ρ:Nat → Value} {w:World} {ty b o o' n c:Nat} {A:Option Addr} {x y:Operand} {k:IntKind} {i:Int} (hx:Ev N ρ x (.slice A n c)) (hA:A = some ⟨b,o,none⟩) (hy:Ev N ρ y (.int k i)) (h0:0 ≤ i) (h1:i < n) (ho:o + i.toNat * 1 = o'):Ex Try.prog N ρ w (.indexAddr 27 x y) ty (.pointer (some ⟨b,o',none⟩)) w:=by
  subst ho
  exact ix27 hx hA hy h0 h1
theorem ix28 {N:Nat} {ρ:Nat → Value} {w:World} {ty b o n c:Nat} {A:Option Addr} {x y:Operand} {k:IntKind} {i:Int} (hx:Ev N ρ x (.slice A n c)) (hA:A = some ⟨b,o,none⟩) (hy:Ev N ρ y (.int k i)) (h0:0 ≤ i) (h1:i < n):Ex Try.prog N ρ w (.indexAddr 28 x y) ty (.pointer (some ⟨b,o + i.toNat * 2,none⟩)) w:=by
  obtain ⟨i0,e1,_,e3,_⟩:=inf49
  subst hA
  have:=x_indexAddr (ty:=ty) (w:=w) Try.underlying28 e1 hx hy h0 h1
  rwa [add_none,e3] at this
theorem ixo28 {N:Nat} {ρ:Nat → Value} {w:World} {ty b o o' n c:Nat} {A:Option Addr} {x y:Operand} {k:IntKind} {i:Int} (hx:Ev N ρ x (.slice A n c)) (hA:A = some ⟨b,o,none⟩) (hy:Ev N ρ y (.int k i)) (h0:0 ≤ i) (h1:i < n) (ho:o + i.toNat * 2 = o'):Ex Try.prog N ρ w (.indexAddr 28 x y) ty (.pointer (some ⟨b,o',none⟩)) w:=by
  subst ho
  exact ix28 hx hA hy h0 h1
theorem ix33 {N:Nat} {ρ:Nat → Value} {w:World} {ty b o n c:Nat} {A:Option Addr} {x y:Operand} {k:IntKind} {i:Int} (hx:Ev N ρ x (.slice A n c)) (hA:A = some ⟨b,o,none⟩) (hy:Ev N ρ y (.int k i)) (h0:0 ≤ i) (h1:i < n):Ex Try.prog N ρ w (.indexAddr 33 x y) ty (.pointer (some ⟨b,o + i.toNat * 1,none⟩)) w:=by
  obtain ⟨i0,e1,_,e3,_⟩:=inf5
  subst hA
  have:=x_indexAddr (ty:=ty) (w:=w) Try.underlying33 e1 hx hy h0 h1
  rwa [add_none,e3] at this
theorem ixo33 {N:Nat} {ρ:Nat → Value} {w:World} {ty b o o' n c:Nat} {A:Option Addr} {x y:Operand} {k:IntKind} {i:Int} (hx:Ev N ρ x (.slice A n c)) (hA:A = some ⟨b,o,none⟩) (hy:Ev N ρ y (.int k i)) (h0:0 ≤ i) (h1:i < n) (ho:o + i.toNat * 1 = o'):Ex Try.prog N ρ w (.indexAddr 33 x y) ty (.pointer (some ⟨b,o',none⟩)) w:=by
  subst ho
  exact ix33 hx hA hy h0 h1
theorem bl24 {N:Nat} {ρ:Nat → Value} {w:World} {ty:Nat} {parts:List (Nat × Operand)} {ps:List (Nat × Value)} {cs:List Value} (hps:Evp N ρ parts ps) (hf:fillL (([(0,1),(1,1)]:List (Nat × Nat))[·]?) [.int .u64 0,.int .i64 0] ps = some cs):Ex Try.prog N ρ w (.build 24 parts.toArray) ty (.agg cs.toArray) w :=
  x_bld (places:=[(0,1),(1,1)]) Try.underlying24 inf24 hps (by kernel_rfl) hf
theorem bl30 {N:Nat} {ρ:Nat → Value} {w:World} {ty:Nat} {parts:List (Nat × Operand)} {ps:List (Nat × Value)} {cs:List Value} (hps:Evp N ρ parts ps) (hf:fillL (([(0,1),(1,1),(2,2),(4,1),(5,2),(7,2),(9,1),(10,1),(11,1),(12,1),(13,1),(14,1)]:List (Nat × Nat))[·]?) [.int .u8 0,.int .i64 0,.int .u64 0,.int .i64 0,.int .u16 0,.int .u64 0,.int .i64 0,.int .u64 0,.int .i64 0,.slice none 0 0,.int .u64 0,.slice none 0 0,.slice none 0 0,.int .u64 0,.int .u64 0] ps = some cs):Ex Try.prog N ρ w (.build 30 parts.toArray) ty (.agg cs.toArray) w :=
  x_bld (places:=[(0,1),(1,1),(2,2),(4,1),(5,2),(7,2),(9,1),(10,1),(11,1),(12,1),(13,1),(14,1)]) Try.underlying30 inf30 hps (by kernel_rfl) hf
theorem bl58 {N:Nat} {ρ:Nat → Value} {w:World} {ty:Nat} {parts:List (Nat × Operand)} {ps:List (Nat × Value)} {cs:List Value} (hps:Evp N ρ parts ps) (hf:fillL (([(0,1),(1,1)]:List (Nat × Nat))[·]?) [.slice none 0 0,.bool false] ps = some cs):Ex Try.prog N ρ w (.build 58 parts.toArray) ty (.agg cs.toArray) w :=
  x_bld (places:=[(0,1),(1,1)]) Try.underlying58 inf58 hps (by kernel_rfl) hf
theorem eqs24 (d:Nat) (w:World) (x0 y0:Int) (x1 y1:Int):(Op.equalIn (d + 2) 24 (.agg #[.int .u64 x0,.int .i64 x1]) (.agg #[.int .u64 y0,.int .i64 y1])).run Try.prog w = .ok (((x0 == y0) && ((x1 == y1) && true))) w:=by
  exact eq_struct (d:=d + 1) Try.underlying24 (by kernel_rfl) (.cons (by kernel_rfl) (part_one (by kernel_rfl) rfl) (part_one (by kernel_rfl) rfl) (eq_int' (d:=d + 0) Try.underlying22 _ _) (.cons (by kernel_rfl) (part_one (by kernel_rfl) rfl) (part_one (by kernel_rfl) rfl) (eq_int' (d:=d + 0) Try.underlying3 _ _) EqF.nil))
theorem eqg24:Try.prog.eqGuardType Try.prog.depth 24 = false:=by kernel_rfl
theorem cb10:Cb Try.prog 10:=⟨Try.f10,Try.func10,by kernel_rfl,by kernel_rfl⟩
theorem cb11:Cb Try.prog 11:=⟨Try.f11,Try.func11,by kernel_rfl,by kernel_rfl⟩
theorem cb12:Cb Try.prog 12:=⟨Try.f12,Try.func12,by kernel_rfl,by kernel_rfl⟩
theorem cb13:Cb Try.prog 13:=⟨Try.f13,Try.func13,by kernel_rfl,by kernel_rfl⟩
theorem cb14:Cb Try.prog 14:=⟨Try.f14,Try.func14,by kernel_rfl,by kernel_rfl⟩
theorem cb19:Cb Try.prog 19:=⟨Try.f19,Try.func19,by kernel_rfl,by kernel_rfl⟩
theorem cb20:Cb Try.prog 20:=⟨Try.f20,Try.func20,by kernel_rfl,by kernel_rfl⟩
theorem cb21:Cb Try.prog 21:=⟨Try.f21,Try.func21,by kernel_rfl,by kernel_rfl⟩
theorem cb22:Cb Try.prog 22:=⟨Try.f22,Try.func22,by kernel_rfl,by kernel_rfl⟩
theorem cb23:Cb Try.prog 23:=⟨Try.f23,Try.func23,by kernel_rfl,by kernel_rfl⟩
theorem cb24:Cb Try.prog 24:=⟨Try.f24,Try.func24,by kernel_rfl,by kernel_rfl⟩
theorem cb25:Cb Try.prog 25:=⟨Try.f25,Try.func25,by kernel_rfl,by kernel_rfl⟩
theorem cb26:Cb Try.prog 26:=⟨Try.f26,Try.func26,by kernel_rfl,by kernel_rfl⟩
theorem cb27:Cb Try.prog 27:=⟨Try.f27,Try.func27,by kernel_rfl,by kernel_rfl⟩
theorem cb28:Cb Try.prog 28:=⟨Try.f28,Try.func28,by kernel_rfl,by kernel_rfl⟩
theorem cb29:Cb Try.prog 29:=⟨Try.f29,Try.func29,by kernel_rfl,by kernel_rfl⟩
theorem cb30:Cb Try.prog 30:=⟨Try.f30,Try.func30,by kernel_rfl,by kernel_rfl⟩
theorem cb54:Cb Try.prog 54:=⟨Try.f54,Try.func54,by kernel_rfl,by kernel_rfl⟩
theorem cb55:Cb Try.prog 55:=⟨Try.f55,Try.func55,by kernel_rfl,by kernel_rfl⟩
theorem cb56:Cb Try.prog 56:=⟨Try.f56,Try.func56,by kernel_rfl,by kernel_rfl⟩
theorem cb57:Cb Try.prog 57:=⟨Try.f57,Try.func57,by kernel_rfl,by kernel_rfl⟩
theorem cb58:Cb Try.prog 58:=⟨Try.f58,Try.func58,by kernel_rfl,by kernel_rfl⟩
theorem cb59:Cb Try.prog 59:=⟨Try.f59,Try.func59,by kernel_rfl,by kernel_rfl⟩
theorem cb61:Cb Try.prog 61:=⟨Try.f61,Try.func61,by kernel_rfl,by kernel_rfl⟩
theorem cb63:Cb Try.prog 63:=⟨Try.f63,Try.func63,by kernel_rfl,by kernel_rfl⟩
theorem cb64:Cb Try.prog 64:=⟨Try.f64,Try.func64,by kernel_rfl,by kernel_rfl⟩
theorem cb65:Cb Try.prog 65:=⟨Try.f65,Try.func65,by kernel_rfl,by kernel_rfl⟩
theorem cb66:Cb Try.prog 66:=⟨Try.f66,Try.func66,by kernel_rfl,by kernel_rfl⟩
end Go.Proofs.Ytlfihfmmhhcigaa

set_option linter.unusedVariables false
namespace Go.FM
open Go
theorem yk {N:Nat} {ρ:Nat → Value} {ops:Array Oper} {j:Nat} (dj:Nat) (b:Bool) {x:Bool} (ho:(ops[j]?).bind (·.dst) = some dj) (hd:Nat.blt dj N = true) (h:x = b) (hv:ρ dj = .bool x:=by rfl):yielded ops (en N ρ).tmps j = some b:=yl ho hd (hv.trans (congrArg Value.bool h))
theorem St.p1 {H:Hp} {w:World} {r0 r1:Res} {L:List Res} (h:St H w (r0::r1::L)):St H w (r1::r0::L):=h.pick 1 rfl rfl
theorem St.p2 {H:Hp} {w:World} {r0 r1 r2:Res} {L:List Res} (h:St H w (r0::r1::r2::L)):St H w (r2::r0::r1::L):=h.pick 2 rfl rfl
theorem St.p3 {H:Hp} {w:World} {r0 r1 r2 r3:Res} {L:List Res} (h:St H w (r0::r1::r2::r3::L)):St H w (r3::r0::r1::r2::L):=h.pick 3 rfl rfl
theorem St.p4 {H:Hp} {w:World} {r0 r1 r2 r3 r4:Res} {L:List Res} (h:St H w (r0::r1::r2::r3::r4::L)):St H w (r4::r0::r1::r2::r3::L):=h.pick 4 rfl rfl
theorem St.p5 {H:Hp} {w:World} {r0 r1 r2 r3 r4 r5:Res} {L:List Res} (h:St H w (r0::r1::r2::r3::r4::r5::L)):St H w (r5::r0::r1::r2::r3::r4::L):=h.pick 5 rfl rfl
theorem St.p6 {H:Hp} {w:World} {r0 r1 r2 r3 r4 r5 r6:Res} {L:List Res} (h:St H w (r0::r1::r2::r3::r4::r5::r6::L)):St H w (r6::r0::r1::r2::r3::r4::r5::L):=h.pick 6 rfl rfl
end Go.FM

set_option linter.unusedVariables false
set_option linter.unusedSimpArgs false
namespace Go.FM
open Go
abbrev Acc:=List (List (List Nat))
section
variable {del:List (List GItem)} {i j k:Nat} {l s s0:List GItem} {x e:GItem} {acc:Acc}
end
end Go.FM

set_option linter.unusedVariables false
set_option linter.unusedSimpArgs false
namespace Go.FM
open Go
section
variable {del d:List (List GItem)} {i j k:Nat} {l s:List GItem} {x e e1 e2:GItem} {acc:Acc}
theorem next_all3 {α:Type} {p:Nat → α → Prop} {l:List α} {i:Nat} {x:α} (ha:∀ (j:Nat) (y:α),j < i → l[j]? = some y → p j y) (hx:l[i]? = some x) (hp:p i x):∀ (j:Nat) (y:α),j < i + 1 → l[j]? = some y → p j y:=by
  intro j y hj hy
  rcases Nat.lt_succ_iff_lt_or_eq.1 hj with hj | rfl
  · exact ha j y hj hy
  · rw [hx] at hy; cases hy; exact hp
end
end Go.FM

set_option linter.unusedVariables false
set_option linter.unusedSimpArgs false
namespace Go.FM
open Go
section
variable {P:Program} {Q:Exit → Act → World → Prop} {N:Nat} {ρ:Nat → Value} {H:Hp} {w w':World} {L:List Res} {t ty e e' size bytes n m c g cap o k:Nat} {v:Value} {xs news:List Value} {x y:Operand} {z:Value} {ops:Array Oper} {rest:List Oper} {pos:String} {aft:Array Edge}
end
end Go.FM
namespace Go.FM
open Go
section
variable {α:Type} {d:Kd α} {H:Hp} {w:World} {L:List Res} {e n g cap:Nat} {cs:List Value} {xs:List α}
end
end Go.FM
namespace Go.FM
end Go.FM
namespace Go.FM
end Go.FM

set_option linter.unusedVariables false
set_option linter.unusedSimpArgs false
namespace Go.FM
open Go
structure Pk where
  From:Int
  To:Int
  v:Value
  bs:List Nat
def kPk:Kd Pk where
  sz:=3
  pos:=by decide
  rep _ p cs:=cs = [.int .i64 p.From,.int .i64 p.To,p.v]∧IB p.From∧IB p.To∧RowOk 1 p.v p.bs.length (p.bs.map encB)∧Small p.bs∧p.bs.length ≤ 140737488351232
  len h:=by rw [h.1]; rfl
  one h:=by
    obtain ⟨rfl,_,_,hok,_⟩:=h
    obtain ⟨A,c,hv,_⟩:=hok.slice
    simp [Value.oneCell',hv]
  mono _ h:=h
  bts:=40
  bts0:=by decide
structure NetS where
  n:Int
  hr:List Nat
  ps:List Pk
  bi:List Int
  lost:Int
structure NetOk (H:Hp) (s:NetS) (vb:Value) (cb:List Value) (vt:Value) (ct:List Value):Prop where
  n1:1 ≤ s.n
  n16:s.n ≤ 16
  hl:s.hr.length = 16
  hb:∀ x ∈ s.hr,x < 65536
  okb:RowOk 3 vb s.ps.length cb
  hkb:kPk.toKn.rows H s.ps cb
  okt:RowOk 1 vt s.bi.length ct
  hkt:kI.toKn.rows H s.bi ct
  len:s.bi.length = s.ps.length
  max:s.ps.length ≤ 4096
  l0:0 ≤ s.lost
theorem NetOk.mono {H H':Hp} {s:NetS} {vb:Value} {cb:List Value} {vt:Value} {ct:List Value} (h:NetOk H s vb cb vt ct) (hl:H.le H'):NetOk H' s vb cb vt ct :=
  ⟨h.n1,h.n16,h.hl,h.hb,h.okb,Kn.rows_mono h.hkb hl,h.okt,Kn.rows_mono h.hkt hl,h.len,h.max,h.l0⟩
section
variable {n lost:Int} {vb vt:Value} {hr:List Nat} {i x:Nat}
end
section
variable {TN TP TI TB g g':Nat} {s s':NetS} {vb vt vb' vt':Value} {cb ct cb' ct':List Value} {L M:List Res} {H:Hp} {w:World}
end
end Go.FM
namespace Go.FM
end Go.FM
namespace Go.FM
end Go.FM
namespace Go.FM
open Go
section
variable {TN TP TI TB g:Nat} {s:NetS} {vb vt:Value} {cb ct:List Value} {L:List Res} {H:Hp} {w:World}
end
end Go.FM

set_option linter.unusedVariables false
set_option linter.unusedSimpArgs false
namespace Go.FM
open Go
section
variable {P:Program} {N:Nat} {ρ:Nat → Value} {w:World} {H:Hp} {L:List Res} {t e ty g n c:Nat} {x y:Operand} {A:Option Addr} {bs:List Nat}
end
section
variable {s:NetS} {a b k:Int} {bs:List Nat} {v:Value}
end
end Go.FM
namespace Go.FM
open Go
section
variable {s:NetS} {a b i j k:Int} {bs:List Nat} {v:Value}
end
end Go.FM
namespace Go.FM
end Go.FM
namespace Go.FM
end Go.FM

set_option linter.unusedVariables false
set_option linter.unusedSimpArgs false
namespace Go.FM
open Go
section
variable {P:Program} {N:Nat} {ρ:Nat → Value} {H:Hp} {w w':World} {L:List Res} {t ty e e' size bytes n m c g cap i:Nat} {v:Value} {xs news:List Value} {x y:Operand} {z:Value}
end
end Go.FM
namespace Go.FM
open Go
section
variable {P:Program} {N:Nat} {ρ:Nat → Value} {H:Hp} {w w':World} {L:List Res} {t ty e e2 n c:Nat} {v u:Value} {x y:Operand} {l bs:List Nat} {TB:Nat}
end
end Go.FM
namespace Go.FM
end Go.FM
namespace Go.FM
section
variable {s:NetS} {i:Int}
end
end Go.FM

set_option linter.unusedVariables false
set_option linter.unusedSimpArgs false
namespace Go.FM
open Go
section
variable {P:Program} {ops:Array Oper} {Q:Exit → Act → World → Prop} {md:Region.Mode} {S S':World → Prop} {Z F:List Nat}
def depT (md:Region.Mode) (ops:Array Oper):Nat → Nat → Nat → Bool
  | 0,_,_ => false
  | f + 1,k,j => ((ops[k]?).map fun o => (o.after.any fun e => Region.binds md e && Nat.beq e.on j) || (o.after.any fun e => Region.binds md e && depT md ops f e.on j)).getD false
def depB (md:Region.Mode) (ops:Array Oper) (k j:Nat):Bool:=depT md ops 4 k j
def Closed (md:Region.Mode) (ops:Array Oper) (listed:Array Bool):Prop:=∀ m o,ops[m]? = some o → listed.getD m false = true → ∀ e ∈ o.after,Region.binds md e = true → listed.getD e.on false = true
theorem set_mono {listed:Array Bool} {j m:Nat} (h:listed.getD m false = true):(listed.setIfInBounds j true).getD m false = true:=by
  by_cases hjm:j = m
  · subst hjm
    rcases Nat.lt_or_ge j listed.size with h' | h'
    · simp [h']
    · simp [Array.getElem?_eq_none h'] at h
  · rw [getD_set_ne false hjm]; exact h
theorem Closed.set {listed:Array Bool} {j:Nat} (hc:Closed md ops listed) (hj:j ∈ Region.ready md ops listed):Closed md ops (listed.setIfInBounds j true):=by
  obtain ⟨_,oj,hoj,hall⟩:=mem_ready.1 hj
  intro m o ho hm e he hb
  by_cases hjm:j = m
  · subst hjm
    rw [ho] at hoj; injection hoj with hoj; subst hoj
    exact set_mono (hall e he hb)
  · rw [getD_set_ne false hjm] at hm
    exact set_mono (hc m o ho hm e he hb)
theorem depT_listed {listed:Array Bool} (hc:Closed md ops listed) {j:Nat}:∀ (f k:Nat),depT md ops f k j = true → (∀ o,ops[k]? = some o → ∀ e ∈ o.after,Region.binds md e = true → listed.getD e.on false = true) → listed.getD j false = true
  | 0,_,h,_ => by cases h
  | f + 1,k,h,hl => by
    unfold depT at h
    cases ho:ops[k]? with
    | none => rw [ho] at h; cases h
    | some o =>
      rw [ho] at h
      simp only [Option.map_some,Option.getD_some,Bool.or_eq_true] at h
      rcases h with h | h
      · obtain ⟨e,he,hb⟩:=Array.any_eq_true'.1 h
        simp only [Bool.and_eq_true] at hb
        have:=hl o ho e he hb.1
        rwa [Nat.eq_of_beq_eq_true hb.2] at this
      · obtain ⟨e,he,hb⟩:=Array.any_eq_true'.1 h
        simp only [Bool.and_eq_true] at hb
        exact depT_listed hc f e.on hb.2 fun o' ho' => hc e.on o' ho' (hl o ho e he hb.1)
theorem depB_spec {k j:Nat} (h:depB md ops k j = true) {listed:Array Bool} (hc:Closed md ops listed) (hr:k ∈ Region.ready md ops listed):listed.getD j false = true:=by
  obtain ⟨_,o,ho,hall⟩:=mem_ready.1 hr
  exact depT_listed hc 4 k h fun o' ho' => by rw [ho] at ho'; injection ho' with ho'; subst ho'; exact hall
def wpG2 (P:Program) (md:Region.Mode) (ops:Array Oper) (Z:List Nat) (Q:Exit → Act → World → Prop):Nat → Array Bool → (World → Prop) → Act → World → Prop
  | 0,listed,_,a,w => Region.ready md ops listed = []∧Q .normal a w
  | fuel + 1,listed,S,a,w =>
    (Region.ready md ops listed = [] → Q .normal a w) ∧
    ∀ i ∈ Region.ready md ops listed,wpOp P ops Q i (fun a' w' => ∃ S':World → Prop,((Z.contains i = false → ∀ u,S' u → S u)∧S' w')∧wpG2 P md ops Z Q fuel (listed.setIfInBounds i true) S' a' w') a w
theorem wpAny_of_g2:∀ (fuel:Nat) (listed:Array Bool) (S:World → Prop) (a:Act) (w:World),wpG2 P md ops Z Q fuel listed S a w → wpAny P md ops Q fuel listed a w
  | 0,_,_,_,_,h => h
  | fuel + 1,_,_,_,_,h => ⟨h.1,fun i hi => wpOp_mono (fun a' w' ⟨_,_,h'⟩ => wpAny_of_g2 fuel _ _ a' w' h') (h.2 i hi)⟩
def SS (free:Bool) (S:World → Prop):World → Prop:=if free then fun _ => True else S
theorem SS.of {free:Bool} {w:World} (h:S w):SS free S w:=by cases free <;> simp [SS,h]
theorem wpG2_first {free:Bool} {i:Nat} {oi:Oper} {v:Value} (hi:ops[i]? = some oi) (hsel:∀ (j:Nat) (o:Oper) cs b,ops[j]? = some o → o.op ≠ .select cs b)
    (hQ:∀ c a w,Q (.panic c) (a.put oi.dst v) w → Q (.panic c) a w) :
    ∀ (fuel:Nat) (listed:Array Bool) (S:World → Prop) (a:Act) (w:World),Closed md ops listed → (free = false → ∀ k,Z.contains k = true → listed.getD k false = true ∨ depB md ops k i = true) →
      (∀ j oj,ops[j]? = some oj → j ≠ i → listed.getD j true = false → (∀ e ∈ oj.after,Region.binds md e = true → e.on ≠ i) → oi.apart ops oj = true) →
      i ∈ Region.ready md ops listed → YieldsIf P ops (SS free S) oi v a → S w →
      wpG2 P md ops Z Q fuel (listed.setIfInBounds i true) S (a.put oi.dst v) w → wpG2 P md ops Z Q (fuel + 1) listed S a w:=by
  intro fuel
  induction fuel with
  | zero =>
    intro listed S a w hcl hz _ hr hy hS H
    refine ⟨fun h => (by rw [h] at hr; cases hr),fun j hj => ?_⟩
    by_cases hji:j = i
    · subst hji; exact hy.wpOp hi (SS.of hS) ⟨S,⟨fun _ _ h => h,hS⟩,H⟩
    · have:=ready_mono hj hji
      rw [H.1] at this
      cases this
  | succ fuel ih =>
    intro listed S a w hcl hz hfree hr hy hS H
    refine ⟨fun h => (by rw [h] at hr; cases hr),fun j hj => ?_⟩
    by_cases hji:j = i
    · subst hji; exact hy.wpOp hi (SS.of hS) ⟨S,⟨fun _ _ h => h,hS⟩,H⟩
    · have h1:=H.2 j (ready_mono hj hji)
      obtain ⟨hjun,oj,hoj,hall⟩:=mem_ready.1 hj
      have hnot:∀ e ∈ oj.after,Region.binds md e = true → e.on ≠ i:=fun e he hb heq => by
        have h1:=hall e he hb
        have h0:=(mem_ready.1 hr).1
        rw [heq] at h1
        rcases Nat.lt_or_ge i listed.size with h' | h'
        · simp [h'] at h0 h1; rw [h0] at h1; cases h1
        · simp [Array.getElem?_eq_none h'] at h1
      have h2:=wpOp_putIf hoj (hfree j oj hoj hji hjun hnot) (fun cs b => hsel i oi cs b hi) (fun cs b => hsel j oj cs b hoj) hQ hy h1
      have hfree':∀ k ok,ops[k]? = some ok → k ≠ i → (listed.setIfInBounds j true).getD k true = false →
          (∀ e ∈ ok.after,Region.binds md e = true → e.on ≠ i) → oi.apart ops ok = true:=fun k ok hk hki hun hno => by
        refine hfree k ok hk hki ?_ hno
        by_cases hjk:j = k
        · subst hjk; exact hjun
        · rw [getD_set_ne true hjk] at hun; exact hun
      have hiu:listed.getD i false = false:=by
        have hil:=(mem_ready.1 hr).1
        rcases Nat.lt_or_ge i listed.size with h' | h'
        · simp [h'] at hil ⊢; exact hil
        · simp [Array.getElem?_eq_none h']
      have hju:listed.getD j false = false:=by
        rcases Nat.lt_or_ge j listed.size with h' | h'
        · simp [h'] at hjun ⊢; exact hjun
        · simp [Array.getElem?_eq_none h']
      have hzj:free = false → Z.contains j = false:=fun hf => by
        cases hc:Z.contains j with
        | false => rfl
        | true =>
          rcases hz hf j hc with h5 | h5
          · rw [hju] at h5; cases h5
          · have:=depB_spec h5 hcl hj
            rw [hiu] at this; cases this
      have hz':free = false → ∀ k,Z.contains k = true → (listed.setIfInBounds j true).getD k false = true ∨ depB md ops k i = true:=fun hf k hk => by
        rcases hz hf k hk with h5 | h5
        · left
          by_cases hjk:j = k
          · subst hjk; rw [hju] at h5; cases h5
          · rw [getD_set_ne false hjk]; exact h5
        · exact .inr h5
      refine wpOp_mono (fun a' w' h3 => ?_) h2
      obtain ⟨hy',S',hs,H'⟩:=h3
      have hs1:∀ u,SS free S' u → SS free S u:=by
        cases free with
        | true => exact fun _ h => h
        | false => exact hs.1 (hzj rfl)
      refine ⟨S',hs,ih (listed.setIfInBounds j true) S' a' w' (hcl.set hj) hz' hfree' (ready_mono hr (Ne.symm hji)) (yieldsIf_mono hy' hs1) hs.2 ?_⟩
      rw [Array.setIfInBounds_comm _ _ hji]
      exact H'
inductive Pl where
  | done
  | q (k:Nat) (r:Pl)
  | e (k:Nat) (r:Pl)
  | two (k₁:Nat) (r₁:Pl) (k₂:Nat) (r₂:Pl)
def Pl.len:Pl → Nat
  | .done => 0
  | .q _ r => r.len + 1
  | .e _ r => r.len + 1
  | .two _ r₁ _ _ => r₁.len + 1
def wpT (P:Program) (ops:Array Oper) (Z F:List Nat) (K:Act → World → Prop):Pl → (World → Prop) → Act → World → Prop
  | .done,_,a,w => K a w
  | .q k r,S,a,w => ∃ o v,ops[k]? = some o∧YieldsIf P ops (SS (F.contains k) S) o v a∧wpT P ops Z F K r S (a.put o.dst v) w
  | .e k r,S,a,w => ∃ o,ops[k]? = some o∧wpList P ops (Qn fun a' w' => ∃ S':World → Prop,((Z.contains k = false → ∀ u,S' u → S u)∧S' w')∧wpT P ops Z F K r S' a' w') [o] a w
  | .two k₁ r₁ k₂ r₂,S,a,w => (∃ o,ops[k₁]? = some o∧wpList P ops (Qn fun a' w' => ∃ S':World → Prop,((Z.contains k₁ = false → ∀ u,S' u → S u)∧S' w')∧wpT P ops Z F K r₁ S' a' w') [o] a w)∧(∃ o,ops[k₂]? = some o∧wpList P ops (Qn fun a' w' => ∃ S':World → Prop,((Z.contains k₂ = false → ∀ u,S' u → S u)∧S' w')∧wpT P ops Z F K r₂ S' a' w') [o] a w)
def planT (md:Region.Mode) (ops:Array Oper) (Z F:List Nat):Pl → Array Bool → Bool
  | .done,listed => (Region.ready md ops listed).isEmpty
  | .q k r,listed => (Region.ready md ops listed).contains k && Region.free md ops listed k && (F.contains k || Z.all fun z => listed.getD z false || depB md ops z k) && planT md ops Z F r (listed.setIfInBounds k true)
  | .e k r,listed => decide (Region.ready md ops listed = [k]) && planT md ops Z F r (listed.setIfInBounds k true)
  | .two k₁ r₁ k₂ r₂,listed => decide (Region.ready md ops listed = [k₁,k₂]) && Nat.beq r₁.len r₂.len && planT md ops Z F r₁ (listed.setIfInBounds k₁ true) && planT md ops Z F r₂ (listed.setIfInBounds k₂ true)
theorem closed_none (n:Nat):Closed md ops (Array.replicate n false):=fun m o _ h => by
  rcases Nat.lt_or_ge m n with h' | h'
  · simp [h'] at h
  · simp [h'] at h
theorem wpT_sound (hsel:Region.noSelect ops = true) {K:Act → World → Prop}:∀ (pl:Pl) (listed:Array Bool) (S:World → Prop) (a:Act) (w:World),
    Closed md ops listed → planT md ops Z F pl listed = true → S w → wpT P ops Z F K pl S a w → wpG2 P md ops Z (Qn K) pl.len listed S a w
  | .done,listed,S,a,w,hc,hB,hS,h => ⟨by simpa [planT] using hB,rfl,h⟩
  | .q k r,listed,S,a,w,hc,hB,hS,h => by
    simp only [planT,Bool.and_eq_true] at hB
    obtain ⟨o,v,ho,hy,h⟩:=h
    refine wpG2_first ho (Region.noSelect_spec hsel) (fun c a w h => absurd h.1 (by intro e; cases e)) r.len listed S a w hc (fun hf z hz => ?_) (Region.free_spec ho hB.1.1.2) (by simpa using hB.1.1.1) hy hS (wpT_sound hsel r _ S _ w (hc.set (by simpa using hB.1.1.1)) hB.2 hS h)
    rw [hf,Bool.false_or] at hB
    have:=List.all_eq_true.1 hB.1.2 z (by simpa using hz)
    simpa using this
  | .e k r,listed,S,a,w,hc,hB,hS,h => by
    simp only [planT,Bool.and_eq_true,decide_eq_true_eq] at hB
    obtain ⟨o,ho,h⟩:=h
    refine ⟨fun h0 => (by rw [hB.1] at h0; cases h0),fun i hi => ?_⟩
    have hi':=hi
    rw [hB.1] at hi
    obtain rfl:i = k:=by simpa using hi
    have h1:=wpOp_of_one (K':=K) ho h
    exact wpOp_mono (fun a' w' ⟨S',hs,h'⟩ => ⟨S',hs,wpT_sound hsel r _ S' a' w' (hc.set hi') hB.2 hs.2 h'⟩) h1
  | .two k₁ r₁ k₂ r₂,listed,S,a,w,hc,hB,hS,h => by
    simp only [planT,Bool.and_eq_true,decide_eq_true_eq] at hB
    obtain ⟨⟨⟨hB0,hBl⟩,hB1⟩,hB2⟩:=hB
    have hl:r₂.len = r₁.len:=(Nat.eq_of_beq_eq_true hBl).symm
    obtain ⟨⟨o₁,ho₁,h₁⟩,o₂,ho₂,h₂⟩:=h
    refine ⟨fun h0 => (by rw [hB0] at h0; cases h0),fun i hi => ?_⟩
    have hi':=hi
    rw [hB0] at hi
    have hi:i = k₁ ∨ i = k₂:=by simpa using hi
    rcases hi with rfl | rfl
    · have h1:=wpOp_of_one (K':=K) ho₁ h₁
      exact wpOp_mono (fun a' w' ⟨S',hs,h'⟩ => ⟨S',hs,wpT_sound hsel r₁ _ S' a' w' (hc.set hi') hB1 hs.2 h'⟩) h1
    · have h1:=wpOp_of_one (K':=K) ho₂ h₂
      refine wpOp_mono (fun a' w' ⟨S',hs,h'⟩ => ⟨S',hs,?_⟩) h1
      have:=wpT_sound hsel r₂ _ S' a' w' (hc.set hi') hB2 hs.2 h'
      rw [hl] at this
      exact this
end
section
variable {P:Program} {Q:Exit → Act → World → Prop} {N:Nat} {ρ:Nat → Value} {w:World} {S:World → Prop}
theorem t_region {id:Nat} {l:List Oper} {H:Hp} {L L':List Res} (Z F:List Nat) (pl:Pl) (hm:P.follows .mixedOrders = true) (hs:St H w L) (hk:∀ u,St H u L → St H u L')
    (hB:(Region.noSelect l.toArray && Nat.beq pl.len l.length && planT .any l.toArray Z F pl (Array.replicate l.length false)) = true)
    (h:∀ w,St H w L → wpT P l.toArray Z F (Q .normal) pl (fun u => St H u L') (en N ρ) w):(Code.region id l.toArray true).wp P Q (en N ρ) w:=by
  simp only [Bool.and_eq_true] at hB
  obtain ⟨⟨hB1,hB2⟩,hB3⟩:=hB
  have hlen:pl.len = l.length:=Nat.eq_of_beq_eq_true hB2
  refine Code.wp_mono (Q:=Qn (Q .normal)) (fun e a w hq => by rw [hq.1]; exact hq.2) (wp_region_any hm (wpAny_of_g2 (Z:=Z) _ _ (fun u => St H u L') _ _ ?_))
  have:=wpT_sound (md:=.any) (Z:=Z) hB1 pl _ _ (en N ρ) _ (closed_none _) hB3 (hk _ (hs.drawn (w.drawn + 1))) (h _ (hs.drawn (w.drawn + 1)))
  rw [hlen] at this
  simpa using this
variable {ops:Array Oper} {Z F:List Nat} {K:Act → World → Prop} {r r₁ r₂:Pl} {k d ty:Nat} {pos:String} {aft:Array Edge} {op:Op} {v:Value}
theorem t_nil (h:K (en N ρ) w):wpT P ops Z F K .done S (en N ρ) w:=h
theorem t_st (hf:F.contains k = false) (ho:ops[k]? = some ⟨some d,op,ty,pos,aft,none⟩) (hr:∀ w,S w → Ex P N ρ w op ty v w) (h:wpT P ops Z F K r S (en N (up ρ d v)) w):wpT P ops Z F K (.q k r) S (en N ρ) w:=by
  refine ⟨_,v,ho,.inl ⟨by simp [Region.wanted],fun u hu => hr u (by rw [hf] at hu; exact hu) _ _ _ _⟩,?_⟩
  rw [en_put]; exact h
theorem t_fr (ho:ops[k]? = some ⟨some d,op,ty,pos,aft,none⟩) (hr:∀ w,True → Ex P N ρ w op ty v w) (h:wpT P ops Z F K r S (en N (up ρ d v)) w):wpT P ops Z F K (.q k r) S (en N ρ) w:=by
  refine ⟨_,v,ho,.inl ⟨by simp [Region.wanted],fun u hu => hr u trivial _ _ _ _⟩,?_⟩
  rw [en_put]; exact h
theorem t_eff {o:Oper} (ho:ops[k]? = some o) (h:wpList P ops (Qn fun a' w' => ∃ S':World → Prop,((Z.contains k = false → ∀ u,S' u → S u)∧S' w')∧wpT P ops Z F K r S' a' w') [o] (en N ρ) w):wpT P ops Z F K (.e k r) S (en N ρ) w:=⟨o,ho,h⟩
theorem t_on {S':World → Prop} (hs:∀ u,S' u → S u) (hw:S' w) (h:wpT P ops Z F K r S' (en N ρ) w) :
    wpList P ops (Qn fun a' w' => ∃ S':World → Prop,((Z.contains k = false → ∀ u,S' u → S u)∧S' w')∧wpT P ops Z F K r S' a' w') [] (en N ρ) w:=⟨rfl,S',⟨fun _ => hs,hw⟩,h⟩
theorem t_two {k₁ k₂:Nat} (h₁:wpT P ops Z F K (.e k₁ r₁) S (en N ρ) w) (h₂:wpT P ops Z F K (.e k₂ r₂) S (en N ρ) w):wpT P ops Z F K (.two k₁ r₁ k₂ r₂) S (en N ρ) w:=⟨h₁,h₂⟩
theorem t_new {S':World → Prop} (hz:Z.contains k = true) (hw:S' w) (h:wpT P ops Z F K r S' (en N ρ) w) :
    wpList P ops (Qn fun a' w' => ∃ S':World → Prop,((Z.contains k = false → ∀ u,S' u → S u)∧S' w')∧wpT P ops Z F K r S' a' w') [] (en N ρ) w:=⟨rfl,S',⟨fun e => (by rw [hz] at e; cases e),hw⟩,h⟩
end
end Go.FM

set_option linter.unusedVariables false
set_option linter.unusedSimpArgs false
namespace Go.FM
open Go
section
variable {P:Program} {ops:Array Oper} {Q:Exit → Act → World → Prop} {K:Act → World → Prop} {a:Act} {w:World} {N:Nat} {ρ:Nat → Value} {C:World → Prop} {Qa Ka:Act → Prop} {o:Oper}
theorem upon_join {next next':Act → World → Prop} (hn:∀ a w,next a w → next' a w) (h:o.wp P a w next (Qn K)):o.wp P a w next' Q:=by
  unfold Oper.wp at h ⊢
  generalize (execOp a.eval o).run P w = r at h ⊢
  cases r with
  | ok n w' =>
    cases n <;> simp only [Oper.upon] at h ⊢
    case value v => exact hn _ _ h
    case skip => exact hn _ _ h
    case defer d => exact hn _ _ h
    case enter f args =>
      refine Calls.mono h fun e w'' he => ?_
      cases e with
      | returned v => exact hn _ _ he
      | panicked c => exact absurd he.1 (by intro e; cases e)
      | outgrown => exact absurd he not_letsOut
    case row row args => exact Rows.mono h fun v w'' he => hn _ _ he
  | halt x w' =>
    cases x <;> simp only [Oper.upon] at h ⊢
    case panic v => exact absurd h.1 (by intro e; cases e)
theorem wpList_app:∀ (l1 l2:List Oper) (a:Act) (w:World),wpList P ops (Qn (wpList P ops Q l2)) l1 a w → wpList P ops Q (l1 ++ l2) a w
  | [],l2,a,w,h => h.2
  | o::l1,l2,a,w,h => by
    simp only [wpList,List.cons_append] at h ⊢
    split
    · rename_i hw
      rw [if_pos hw] at h
      left
      rcases h with h | ⟨_,h⟩
      · exact upon_join (fun a w h => wpList_app l1 l2 a w h) h
      · exact absurd h not_letsOut
    · rename_i hw
      rw [if_neg hw] at h
      exact wpList_app l1 l2 _ w h
theorem wpList_mono {K K':Act → World → Prop} (hk:∀ a w,K a w → K' a w):∀ (l:List Oper) (a:Act) (w:World),wpList P ops (Qn K) l a w → wpList P ops (Qn K') l a w
  | [],a,w,h => ⟨h.1,hk a w h.2⟩
  | o::l,a,w,h => by
    simp only [wpList] at h ⊢
    split
    · rename_i hw
      rw [if_pos hw] at h
      left
      rcases h with h | ⟨_,h⟩
      · exact upon_join (fun a w h => wpList_mono hk l a w h) h
      · exact absurd h not_letsOut
    · rename_i hw
      rw [if_neg hw] at h
      exact wpList_mono hk l _ w h
theorem jw {l:List Oper} (k:Nat) (S:(Nat → Value) → World → Prop) (h:wpList P ops (Qn fun a' w' => ∃ ρ',a' = en N ρ'∧S ρ' w') (l.take k) (en N ρ) w) (c:∀ ρ' w',S ρ' w' → wpList P ops Q (l.drop k) (en N ρ') w'):wpList P ops Q l (en N ρ) w:=by
  have h2:=wpList_app (Q:=Q) (l.take k) (l.drop k) (en N ρ) w (wpList_mono (fun a' w' h => by obtain ⟨ρ',rfl,hS⟩:=h; exact c ρ' w' hS) _ _ _ h)
  rwa [List.take_append_drop] at h2
theorem jw_end {S:(Nat → Value) → World → Prop} (h:S ρ w):wpList P ops (Qn fun a' w' => ∃ ρ',a' = en N ρ'∧S ρ' w') [] (en N ρ) w:=⟨rfl,ρ,rfl,h⟩
end
section
variable {a b:Bool} {p q:Prop}
theorem jor_f (h:a = false):b = (a || b):=by rw [h]; rfl
theorem jor_t (h:a = true):true = (a || b):=by rw [h]; rfl
theorem jand_t (h:a = true):b = (a && b):=by rw [h]; rfl
theorem jand_f (h:a = false):false = (a && b):=by rw [h]; rfl
theorem J_or (h:a = true ↔ p) (k:b = true ↔ q):(a || b) = true ↔ (p ∨ q):=by rw [Bool.or_eq_true,h,k]
theorem J_and (h:a = true ↔ p) (k:b = true ↔ q):(a && b) = true ↔ (p∧q):=by rw [Bool.and_eq_true,h,k]
theorem J_not (h:a = true ↔ p):(!a) = true ↔ ¬ p:=by rw [Bool.not_eq_true',← h,Bool.not_eq_true]
theorem J_no (h:a = true ↔ p) (k:a = false):¬ p:=fun hp => by rw [h.2 hp] at k; cases k
end
end Go.FM

set_option linter.unusedVariables false
set_option linter.unusedSimpArgs false
namespace Go.Proofs.Ytlfihfmmhhcigaa
open Go Go.FM Go.Proofs
attribute [local irreducible] wpList wpQuiet wpS Code.wp Calls
set_option maxHeartbeats 8000000 in
theorem form_spec {H:Hp} {w:World} {L:List Res} (hs:St H w L) (n:Nat) (p:Int):Calls Try.prog 61 #[.agg #[.int .u64 ((n:Nat):Int),.int .i64 p]] w (fun e w' => e = .returned (.bool (formV n p))∧St H w' L):=by
 refine enter (args:=[.agg #[.int .u64 ((n:Nat):Int),.int .i64 p]]) (N:=21) Try.func61 rfl rfl rfl ?_
 refine c_seq (c_region (st_m (m_box (cs:=[.int .u64 ((n:Nat):Int),.int .i64 p]) hs (v:=.agg #[.int .u64 ((n:Nat):Int),.int .i64 p]) (.tmp rfl rfl) rfl) ?_))
 rintro _ w2 ⟨g1,rfl,hs4⟩
 refine st (v:=.bool false) (x_assign .const) ?_
 refine c_nil (n_then (c_seq (c_region (st (v:=.pointer (some ⟨g1,0 + 1,none⟩)) (fa24_1 (.tmp rfl rfl)) ?_))))
 refine st (v:=.int .i64 p) (ld3 (.tmp rfl rfl) (hs4.cell 0 rfl (0 + 1) rfl)) ?_
 refine st (v:=.bool (decide ((0:Int) ≤ p))) (x_geq (k:=.i64) (a:=p) (b:=0) (.tmp rfl rfl) .const) ?_
 refine st (v:=.bool (decide ((0:Int) ≤ p))) (x_move (.tmp rfl rfl)) ?_
 rcases Bool.eq_false_or_eq_true (decide ((0:Int) ≤ p)) with hc5 | hc5
 have hp5:(0:Int) ≤ p:=of_decide_eq_true hc5
 refine g_yes (yk 6 true rfl rfl hc5) ?_
 refine st (v:=.pointer (some ⟨g1,0 + 1,none⟩)) (fa24_1 (.tmp rfl rfl)) ?_
 refine g_yes (yk 6 true rfl rfl hc5) ?_
 refine st (v:=.int .i64 p) (ld3 (.tmp rfl rfl) (hs4.cell 0 rfl (0 + 1) rfl)) ?_
 refine g_yes (yk 6 true rfl rfl hc5) ?_
 refine st (v:=.bool (decide ((p:Int) < 16))) (x_lss (k:=.i64) (a:=p) (b:=16) (.tmp rfl rfl) .const) ?_
 refine st (v:=.bool (decide ((p:Int) < 16))) (x_pick_t (.tmp rfl (congrArg Value.bool hc5)) (.tmp rfl rfl)) ?_
 refine st (v:=.bool (decide ((p:Int) < 16))) (x_move (.tmp rfl rfl)) ?_
 rcases Bool.eq_false_or_eq_true (decide ((p:Int) < 16)) with hc6 | hc6
 have hp6:(p:Int) < 16:=of_decide_eq_true hc6
 refine g_yes (yk 11 true rfl rfl hc6) ?_
 refine st (v:=.pointer (some ⟨g1,0 + 0,none⟩)) (fa24_0 (.tmp rfl rfl)) ?_
 refine g_yes (yk 11 true rfl rfl hc6) ?_
 refine st (v:=.int .u64 ((n:Nat):Int)) (ld22 (.tmp rfl rfl) (hs4.cell 0 rfl (0 + 0) rfl)) ?_
 refine g_yes (yk 11 true rfl rfl hc6) ?_
 refine st (v:=.bool (decide ((0:Int) < ((n:Nat):Int)))) (x_gtr (k:=.u64) (a:=((n:Nat):Int)) (b:=0) (.tmp rfl rfl) .const) ?_
 refine g_yes (yk 11 true rfl rfl hc6) ?_
 refine st (v:=.bool (decide ((0:Int) < ((n:Nat):Int)))) (x_move (.tmp rfl rfl)) ?_
 rcases Bool.eq_false_or_eq_true (decide ((0:Int) < ((n:Nat):Int))) with hc7 | hc7
 have hp7:(0:Int) < ((n:Nat):Int):=of_decide_eq_true hc7
 refine g_no (yk 15 true rfl rfl hc7) rfl ?_
 refine g_no (yk 15 true rfl rfl hc7) rfl ?_
 refine g_no (yk 15 true rfl rfl hc7) rfl ?_
 refine g_yes (yk 11 true rfl rfl hc6) ?_
 refine st (v:=.bool true) (x_pick_t (.tmp rfl (congrArg Value.bool hc7)) .const) ?_
 refine st (v:=.bool true) (x_pick_t (.tmp rfl (congrArg Value.bool hc6)) (.tmp rfl rfl)) ?_
 refine st (v:=.bool true) (x_assign (.tmp rfl rfl)) ?_
 refine c_nil (n_then (c_ret (leave_ret (res_one (v:=.bool true) rfl (.mk rfl rfl)) ?_)))
 have hfm:true = formV n p:=by
   unfold formV
   first | exact decide_eq_decide.2 (by omega) | exact (decide_eq_true (by omega)).symm | exact (decide_eq_false (by omega)).symm
 exact ⟨congrArg (fun b => Ending.returned (.bool b)) hfm,hs4.drop⟩
 have hp7:¬ ((0:Int) < ((n:Nat):Int)):=of_decide_eq_false hc7
 refine g_yes (yk 15 false rfl rfl hc7) ?_
 refine st (v:=.pointer (some ⟨g1,0 + 1,none⟩)) (fa24_1 (.tmp rfl rfl)) ?_
 refine g_yes (yk 15 false rfl rfl hc7) ?_
 refine st (v:=.int .i64 p) (ld3 (.tmp rfl rfl) (hs4.cell 0 rfl (0 + 1) rfl)) ?_
 refine g_yes (yk 15 false rfl rfl hc7) ?_
 refine st (v:=.bool (decide ((p:Int) = 0))) (x_eql (k:=.i64) (a:=p) (b:=0) (.tmp rfl rfl) .const) ?_
 refine g_yes (yk 11 true rfl rfl hc6) ?_
 refine st (v:=.bool (decide ((p:Int) = 0))) (x_pick_f (.tmp rfl (congrArg Value.bool hc7)) (.tmp rfl rfl)) ?_
 refine st (v:=.bool (decide ((p:Int) = 0))) (x_pick_t (.tmp rfl (congrArg Value.bool hc6)) (.tmp rfl rfl)) ?_
 refine st (v:=.bool (decide ((p:Int) = 0))) (x_assign (.tmp rfl rfl)) ?_
 refine c_nil (n_then (c_ret (leave_ret (res_one (v:=.bool (decide ((p:Int) = 0))) rfl (.mk rfl rfl)) ?_)))
 have hfm:(decide ((p:Int) = 0)) = formV n p:=by
   unfold formV
   first | exact decide_eq_decide.2 (by omega) | exact (decide_eq_true (by omega)).symm | exact (decide_eq_false (by omega)).symm
 exact ⟨congrArg (fun b => Ending.returned (.bool b)) hfm,hs4.drop⟩
 have hp6:¬ ((p:Int) < 16):=of_decide_eq_false hc6
 refine g_no (yk 11 false rfl rfl hc6) rfl ?_
 refine g_no (yk 11 false rfl rfl hc6) rfl ?_
 refine g_no (yk 11 false rfl rfl hc6) rfl ?_
 refine g_no (yk 11 false rfl rfl hc6) rfl ?_
 refine g_no0 (yn (dj:=15) rfl rfl) ?_
 refine g_no0 (yn (dj:=15) rfl rfl) ?_
 refine g_no0 (yn (dj:=15) rfl rfl) ?_
 refine g_no (yk 11 false rfl rfl hc6) rfl ?_
 refine st (v:=.bool false) (x_pick_f (.tmp rfl (congrArg Value.bool hc6)) .const) ?_
 refine st (v:=.bool false) (x_assign (.tmp rfl rfl)) ?_
 refine c_nil (n_then (c_ret (leave_ret (res_one (v:=.bool false) rfl (.mk rfl rfl)) ?_)))
 have hfm:false = formV n p:=by
   unfold formV
   first | exact decide_eq_decide.2 (by omega) | exact (decide_eq_true (by omega)).symm | exact (decide_eq_false (by omega)).symm
 exact ⟨congrArg (fun b => Ending.returned (.bool b)) hfm,hs4.drop⟩
 have hp5:¬ ((0:Int) ≤ p):=of_decide_eq_false hc5
 refine g_no (yk 6 false rfl rfl hc5) rfl ?_
 refine g_no (yk 6 false rfl rfl hc5) rfl ?_
 refine g_no (yk 6 false rfl rfl hc5) rfl ?_
 refine st (v:=.bool false) (x_pick_f (.tmp rfl (congrArg Value.bool hc5)) .const) ?_
 refine st (v:=.bool false) (x_move (.tmp rfl rfl)) ?_
 refine g_no (yl (dj:=11) (b:=false) rfl rfl rfl) rfl ?_
 refine g_no (yl (dj:=11) (b:=false) rfl rfl rfl) rfl ?_
 refine g_no (yl (dj:=11) (b:=false) rfl rfl rfl) rfl ?_
 refine g_no (yl (dj:=11) (b:=false) rfl rfl rfl) rfl ?_
 refine g_no0 (yn (dj:=15) rfl rfl) ?_
 refine g_no0 (yn (dj:=15) rfl rfl) ?_
 refine g_no0 (yn (dj:=15) rfl rfl) ?_
 refine g_no (yl (dj:=11) (b:=false) rfl rfl rfl) rfl ?_
 refine st (v:=.bool false) (x_pick_f (.tmp rfl rfl) .const) ?_
 refine st (v:=.bool false) (x_assign (.tmp rfl rfl)) ?_
 refine c_nil (n_then (c_ret (leave_ret (res_one (v:=.bool false) rfl (.mk rfl rfl)) ?_)))
 have hfm:false = formV n p:=by
   unfold formV
   first | exact decide_eq_decide.2 (by omega) | exact (decide_eq_true (by omega)).symm | exact (decide_eq_false (by omega)).symm
 exact ⟨congrArg (fun b => Ending.returned (.bool b)) hfm,hs4.drop⟩
set_option maxHeartbeats 8000000 in
theorem rform_spec {H:Hp} {w:World} {L:List Res} (hs:St H w L) (n:Nat) (p:Int):Calls Try.prog 19 #[.agg #[.int .u64 ((n:Nat):Int),.int .i64 p]] w (fun e w' => e = .returned (.bool (formV n p))∧St H w' L):=by
 refine enter (args:=[.agg #[.int .u64 ((n:Nat):Int),.int .i64 p]]) (N:=17) Try.func19 rfl rfl rfl ?_
 refine c_seq (c_region (st_m (m_box (cs:=[.int .u64 ((n:Nat):Int),.int .i64 p]) hs (v:=.agg #[.int .u64 ((n:Nat):Int),.int .i64 p]) (.tmp rfl rfl) rfl) ?_))
 rintro _ w2 ⟨g1,rfl,hs4⟩
 refine st (v:=.bool false) (x_assign .const) ?_
 refine c_nil (n_then (c_seq (c_seq (c_region (st (v:=.pointer (some ⟨g1,0 + 0,none⟩)) (fa24_0 (.tmp rfl rfl)) ?_)))))
 refine st (v:=.int .u64 ((n:Nat):Int)) (ld22 (.tmp rfl rfl) (hs4.cell 0 rfl (0 + 0) rfl)) ?_
 refine st (v:=.bool (decide ((((n:Nat):Int):Int) = 0))) (x_eql (k:=.u64) (a:=((n:Nat):Int)) (b:=0) (.tmp rfl rfl) .const) ?_
 refine c_nil (n_then ?_)
 rcases Bool.eq_false_or_eq_true (decide ((((n:Nat):Int):Int) = 0)) with hc5 | hc5
 have hp5:(((n:Nat):Int):Int) = 0:=of_decide_eq_true hc5
 refine c_cond_t (t:=true) (.tmp rfl (congrArg Value.bool hc5)) rfl ?_
 refine c_seq (c_region (st (v:=.pointer (some ⟨g1,0 + 1,none⟩)) (fa24_1 (.tmp rfl rfl)) ?_))
 refine st (v:=.int .i64 p) (ld3 (.tmp rfl rfl) (hs4.cell 0 rfl (0 + 1) rfl)) ?_
 refine st (v:=.bool (decide ((p:Int) = 0))) (x_eql (k:=.i64) (a:=p) (b:=0) (.tmp rfl rfl) .const) ?_
 refine st (v:=.bool (decide ((p:Int) = 0))) (x_assign (.tmp rfl rfl)) ?_
 refine c_nil (n_then (c_ret (r_then (leave_ret (res_one (v:=.bool (decide ((p:Int) = 0))) rfl (.mk rfl rfl)) ?_))))
 have hfm:(decide ((p:Int) = 0)) = formV n p:=by
   unfold formV
   first | exact decide_eq_decide.2 (by omega) | exact (decide_eq_true (by omega)).symm | exact (decide_eq_false (by omega)).symm
 exact ⟨congrArg (fun b => Ending.returned (.bool b)) hfm,hs4.drop⟩
 have hp5:¬ ((((n:Nat):Int):Int) = 0):=of_decide_eq_false hc5
 refine c_cond_f (t:=false) (.tmp rfl (congrArg Value.bool hc5)) rfl ?_
 refine c_skip (n_then (c_seq (c_region (st (v:=.pointer (some ⟨g1,0 + 1,none⟩)) (fa24_1 (.tmp rfl rfl)) ?_))))
 refine st (v:=.int .i64 p) (ld3 (.tmp rfl rfl) (hs4.cell 0 rfl (0 + 1) rfl)) ?_
 refine st (v:=.bool (decide ((0:Int) ≤ p))) (x_geq (k:=.i64) (a:=p) (b:=0) (.tmp rfl rfl) .const) ?_
 refine st (v:=.bool (decide ((0:Int) ≤ p))) (x_move (.tmp rfl rfl)) ?_
 rcases Bool.eq_false_or_eq_true (decide ((0:Int) ≤ p)) with hc6 | hc6
 have hp6:(0:Int) ≤ p:=of_decide_eq_true hc6
 refine g_yes (yk 12 true rfl rfl hc6) ?_
 refine st (v:=.pointer (some ⟨g1,0 + 1,none⟩)) (fa24_1 (.tmp rfl rfl)) ?_
 refine g_yes (yk 12 true rfl rfl hc6) ?_
 refine st (v:=.int .i64 p) (ld3 (.tmp rfl rfl) (hs4.cell 0 rfl (0 + 1) rfl)) ?_
 refine g_yes (yk 12 true rfl rfl hc6) ?_
 refine st (v:=.bool (decide ((p:Int) ≤ 15))) (x_leq (k:=.i64) (a:=p) (b:=15) (.tmp rfl rfl) .const) ?_
 refine st (v:=.bool (decide ((p:Int) ≤ 15))) (x_pick_t (.tmp rfl (congrArg Value.bool hc6)) (.tmp rfl rfl)) ?_
 refine st (v:=.bool (decide ((p:Int) ≤ 15))) (x_assign (.tmp rfl rfl)) ?_
 refine c_nil (n_then (c_ret (leave_ret (res_one (v:=.bool (decide ((p:Int) ≤ 15))) rfl (.mk rfl rfl)) ?_)))
 have hfm:(decide ((p:Int) ≤ 15)) = formV n p:=by
   unfold formV
   first | exact decide_eq_decide.2 (by omega) | exact (decide_eq_true (by omega)).symm | exact (decide_eq_false (by omega)).symm
 exact ⟨congrArg (fun b => Ending.returned (.bool b)) hfm,hs4.drop⟩
 have hp6:¬ ((0:Int) ≤ p):=of_decide_eq_false hc6
 refine g_no (yk 12 false rfl rfl hc6) rfl ?_
 refine g_no (yk 12 false rfl rfl hc6) rfl ?_
 refine g_no (yk 12 false rfl rfl hc6) rfl ?_
 refine st (v:=.bool false) (x_pick_f (.tmp rfl (congrArg Value.bool hc6)) .const) ?_
 refine st (v:=.bool false) (x_assign (.tmp rfl rfl)) ?_
 refine c_nil (n_then (c_ret (leave_ret (res_one (v:=.bool false) rfl (.mk rfl rfl)) ?_)))
 have hfm:false = formV n p:=by
   unfold formV
   first | exact decide_eq_decide.2 (by omega) | exact (decide_eq_true (by omega)).symm | exact (decide_eq_false (by omega)).symm
 exact ⟨congrArg (fun b => Ending.returned (.bool b)) hfm,hs4.drop⟩
end Go.Proofs.Ytlfihfmmhhcigaa

set_option linter.unusedVariables false
set_option linter.unusedSimpArgs false
namespace Go.Proofs.Ytlfihfmmhhcigaa
open Go Go.FM Go.Proofs
attribute [local irreducible] wpList wpQuiet wpS Code.wp Calls
set_option maxHeartbeats 8000000 in
theorem sum_spec {H:Hp} {w:World} {L:List Res} (hs:St H w L) {A:Option Addr} {n c:Nat} {bs:List Nat} (hp:Bs H A n c bs) (hn:n ≤ 140737488355320):Calls Try.prog 59 #[.slice A n c] w (fun e w' => e = .returned (.int .u32 ((crc bs:Nat):Int))∧St H w' L):=by
 refine enter (args:=[.slice A n c]) (N:=29) Try.func59 rfl rfl rfl ?_
 have hle:=hp.le
 have hlen:=hp.len
 refine c_seq (c_region (st (v:=.int .u32 0) (x_assign .const) ?_))
 refine c_nil (n_then (c_seq (c_region (st (v:=.int .u32 4294967295) (x_assign .const) ?_))))
 refine c_nil (n_then (c_seq (c_seq (c_region (st (v:=.slice A n c) (x_move (.tmp rfl rfl)) ?_)))))
 refine st (v:=.int .i64 ((n:Nat):Int)) (x_len (n:=n) Try.underlying33 (.tmp rfl rfl)) ?_
 refine st (v:=.int .i64 0) (x_move .const) ?_
 refine c_nil (n_then (c_block (c_loop (fun ρ w mm => ∃ (i:Nat) (cc:Nat),ρ 3 = .int .u32 ((cc:Nat):Int)∧ρ 6 = .slice A n c∧ρ 7 = .int .i64 ((n:Nat):Int)∧ρ 8 = .int .i64 ((i:Nat):Int)∧(i ≤ n)∧(cc < 4294967296)∧(cc = crcR 4294967295 (bs.take i))∧St H w (L)∧mm = n - i) _ ⟨0,4294967295,rfl,rfl,rfl,rfl,(by omega),(by decide),rfl,hs,rfl⟩ ?_)))
 rintro ρ w mm ⟨i,cc,hρ2,hρ3,hρ4,hρ5,hi,hc,he,hs6,rfl⟩
 refine c_seq (c_region (st (v:=.bool (decide ((((i:Nat):Int):Int) < ((n:Nat):Int)))) (x_lss (k:=.i64) (a:=((i:Nat):Int)) (b:=((n:Nat):Int)) (.tmp rfl hρ5) (.tmp rfl hρ4)) ?_))
 refine c_nil (n_then (c_seq ?_))
 rcases Bool.eq_false_or_eq_true (decide ((((i:Nat):Int):Int) < ((n:Nat):Int))) with hc7 | hc7
 have hp7:(((i:Nat):Int):Int) < ((n:Nat):Int):=of_decide_eq_true hc7
 refine c_cond_t (t:=true) (.tmp rfl (congrArg Value.bool hc7)) rfl ?_
 refine c_skip (n_then (c_seq (c_block (c_seq (c_region ?_)))))
 obtain ⟨b8,o9,hA10,hc11⟩:=hp.get (i:=i) (by omega)
 refine st (v:=.pointer (some ⟨b8,(o9 + i * 1),none⟩)) (ixo33 (.tmp rfl hρ3) hA10 (i:=((i:Nat):Int)) (.tmp rfl hρ5) (by omega) (by omega) rfl) ?_
 refine st (v:=.int .u8 ((bs.getD i 0:Nat):Int)) (ld5 (.tmp rfl rfl) (hc11 hs6)) ?_
 refine st (v:=.int .u8 ((bs.getD i 0:Nat):Int)) (x_assign (.tmp rfl rfl)) ?_
 refine c_nil (n_then (c_seq (c_region (st (v:=.int .u32 ((cc:Nat):Int)) (x_move (.tmp rfl hρ2)) ?_))))
 refine st (v:=.int .u8 ((bs.getD i 0:Nat):Int)) (x_move (.tmp rfl rfl)) ?_
 have hb12:(bs.getD i 0) < 4294967296:=Nat.lt_of_lt_of_le (hp.lt.getD _) (by decide)
 refine st (v:=.int .u32 (((bs.getD i 0):Nat):Int)) (x_conv (k:=.u8) (a:=((bs.getD i 0:Nat):Int)) Try.underlying5 Try.underlying45 (.tmp rfl rfl) (wU rfl rfl hb12)) ?_
 have hb13:(cc ^^^ (bs.getD i 0)) < 4294967296:=Nat.xor_lt_two_pow (n:=32) hc hb12
 refine st (v:=.int .u32 (((cc ^^^ (bs.getD i 0)):Nat):Int)) (x_xor (k:=.u32) (m:=cc) (n:=(bs.getD i 0)) rfl (.tmp rfl rfl) (.tmp rfl rfl) (show _ < 2 ^ 32 from hc) (show _ < 2 ^ 32 from hb12)) ?_
 refine st (v:=.int .u32 (((cc ^^^ (bs.getD i 0)):Nat):Int)) (x_assign (.tmp rfl rfl)) ?_
 refine c_nil (n_then (c_seq (c_region (st (v:=.int .i64 0) (x_move .const) ?_))))
 refine c_nil (n_then (c_block (c_loop (fun ρ w mm => ∃ (j:Nat) (d:Nat),ρ 3 = .int .u32 ((d:Nat):Int)∧ρ 6 = .slice A n c∧ρ 7 = .int .i64 ((n:Nat):Int)∧ρ 8 = .int .i64 ((i:Nat):Int)∧ρ 16 = .int .i64 ((j:Nat):Int)∧(j ≤ 8)∧(d < 4294967296)∧(d = cbits j (cc ^^^ bs.getD i 0))∧St H w (L)∧mm = 8 - j) _ ⟨0,(cc ^^^ (bs.getD i 0)),rfl,hρ3,hρ4,hρ5,rfl,(by omega),hb13,rfl,hs6,rfl⟩ ?_)))
 rintro ρ w mm ⟨j,d,hρ15,hρ16,hρ17,hρ18,hρ19,hj,hd,he2,hs20,rfl⟩
 refine c_seq (c_region (st (v:=.bool (decide ((((j:Nat):Int):Int) < 8))) (x_lss (k:=.i64) (a:=((j:Nat):Int)) (b:=8) (.tmp rfl hρ19) .const) ?_))
 refine c_nil (n_then (c_seq ?_))
 rcases Bool.eq_false_or_eq_true (decide ((((j:Nat):Int):Int) < 8)) with hc21 | hc21
 have hp21:(((j:Nat):Int):Int) < 8:=of_decide_eq_true hc21
 refine c_cond_t (t:=true) (.tmp rfl (congrArg Value.bool hc21)) rfl ?_
 refine c_skip (n_then (c_seq (c_block (c_region (st (v:=.int .u32 ((d:Nat):Int)) (x_move (.tmp rfl hρ15)) ?_)))))
 have hb22:(d / 2 ^ 1) < 4294967296:=Nat.lt_of_le_of_lt (Nat.div_le_self _ _) hd
 refine st (v:=.int .u32 (((d / 2 ^ 1):Nat):Int)) (x_shr (k:=.u32) (m:=d) (b:=1) rfl (.tmp rfl rfl) .const (by omega) (show _ < 2 ^ 32 from hd)) ?_
 refine st (v:=.int .u32 ((d:Nat):Int)) (x_move (.tmp rfl hρ15)) ?_
 have hb23:(d &&& 1) < 4294967296:=Nat.lt_of_le_of_lt Nat.and_le_left hd
 refine st (v:=.int .u32 (((d &&& 1):Nat):Int)) (x_and (k:=.u32) (m:=d) (n:=1) rfl (.tmp rfl rfl) .const (show _ < 2 ^ 32 from hd) (show _ < 2 ^ 32 from (by decide))) ?_
 refine st (v:=.int .u32 ((((0 - (((d &&& 1):Nat):Int)) % 4294967296).toNat:Nat):Int)) (x_neg (k:=.u32) (a:=(((d &&& 1):Nat):Int)) (.tmp rfl rfl) (wrapU _ rfl _)) ?_
 have hb24:(3988292384 &&& (((0 - (((d &&& 1):Nat):Int)) % 4294967296).toNat)) < 4294967296:=Nat.lt_of_le_of_lt Nat.and_le_left (by decide)
 refine st (v:=.int .u32 (((3988292384 &&& (((0 - (((d &&& 1):Nat):Int)) % 4294967296).toNat)):Nat):Int)) (x_and (k:=.u32) (m:=3988292384) (n:=(((0 - (((d &&& 1):Nat):Int)) % 4294967296).toNat)) rfl .const (.tmp rfl rfl) (show _ < 2 ^ 32 from (by decide)) (show _ < 2 ^ 32 from (by omega))) ?_
 have hb25:((d / 2 ^ 1) ^^^ (3988292384 &&& (((0 - (((d &&& 1):Nat):Int)) % 4294967296).toNat))) < 4294967296:=Nat.xor_lt_two_pow (n:=32) hb22 hb24
 refine st (v:=.int .u32 ((((d / 2 ^ 1) ^^^ (3988292384 &&& (((0 - (((d &&& 1):Nat):Int)) % 4294967296).toNat))):Nat):Int)) (x_xor (k:=.u32) (m:=(d / 2 ^ 1)) (n:=(3988292384 &&& (((0 - (((d &&& 1):Nat):Int)) % 4294967296).toNat))) rfl (.tmp rfl rfl) (.tmp rfl rfl) (show _ < 2 ^ 32 from hb22) (show _ < 2 ^ 32 from hb24)) ?_
 refine st (v:=.int .u32 ((((d / 2 ^ 1) ^^^ (3988292384 &&& (((0 - (((d &&& 1):Nat):Int)) % 4294967296).toNat))):Nat):Int)) (x_assign (.tmp rfl rfl)) ?_
 refine c_nil (n_block (n_then (c_region (st (v:=.int .i64 (((j:Nat):Int) + 1)) (x_add (k:=.i64) (a:=((j:Nat):Int)) (b:=1) (.tmp rfl hρ19) .const (w64 (by omega) (by omega))) ?_))))
 refine st (v:=.int .i64 (((j:Nat):Int) + 1)) (x_move (.tmp rfl rfl)) ?_
 refine c_nil ?_
 refine n_then ⟨_,_,rfl,?_,(j + 1),((d / 2 ^ 1) ^^^ (3988292384 &&& (((0 - (((d &&& 1):Nat):Int)) % 4294967296).toNat))),rfl,hρ16,hρ17,hρ18,rfl,(by omega),hb25,(by rw [cbit_code,he2]; rfl),hs20,rfl⟩
 omega
 have hp21:¬ ((((j:Nat):Int):Int) < 8):=of_decide_eq_false hc21
 refine c_cond_f (t:=false) (.tmp rfl (congrArg Value.bool hc21)) rfl ?_
 refine c_exit (x_then (x_then (x_here (n_block (n_then (c_region ?_))))))
 have hj8:j = 8:=by omega
 refine st (v:=.int .i64 (((i:Nat):Int) + 1)) (x_add (k:=.i64) (a:=((i:Nat):Int)) (b:=1) (.tmp rfl hρ18) .const (w64 (by omega) (by omega))) ?_
 refine st (v:=.int .i64 (((i:Nat):Int) + 1)) (x_move (.tmp rfl rfl)) ?_
 refine c_nil ?_
 refine n_then ⟨_,_,rfl,?_,(i + 1),d,hρ15,hρ16,hρ17,rfl,(by omega),hd,(by rw [he2,hj8,crcR_take (by omega),← he]; rfl),hs20,rfl⟩
 omega
 have hp7:¬ ((((i:Nat):Int):Int) < ((n:Nat):Int)):=of_decide_eq_false hc7
 refine c_cond_f (t:=false) (.tmp rfl (congrArg Value.bool hc7)) rfl ?_
 refine c_exit (x_then (x_then (x_here (n_then (c_seq (c_region (st (v:=.int .u32 ((cc:Nat):Int)) (x_move (.tmp rfl hρ2)) ?_)))))))
 refine st (v:=.int .u32 ((4294967295 - cc:Nat):Int)) (x_xorU (k:=.u32) (n:=cc) rfl (.tmp rfl rfl) (show _ < 2 ^ 32 from hc)) ?_
 refine st (v:=.int .u32 ((4294967295 - cc:Nat):Int)) (x_assign (.tmp rfl rfl)) ?_
 refine c_nil (n_then (c_ret (leave_ret (res_one (v:=.int .u32 ((4294967295 - cc:Nat):Int)) rfl (.mk rfl rfl)) ?_)))
 have hi2:i = bs.length:=by omega
 rw [hi2,List.take_length] at he
 exact ⟨by rw [he]; rfl,hs6⟩
end Go.Proofs.Ytlfihfmmhhcigaa

set_option linter.unusedVariables false
set_option linter.unusedSimpArgs false
namespace Go.Proofs.Ytlfihfmmhhcigaa
open Go Go.FM Go.Proofs
attribute [local irreducible] wpList wpQuiet wpS Code.wp Calls
set_option maxHeartbeats 8000000 in
theorem four_spec {H:Hp} {w:World} {L:List Res} (hs:St H w L) (s:Nat) (b_s:s < 4294967296):Calls Try.prog 58 #[.int .u32 ((s:Nat):Int)] w (fun e w' => e = .returned (.agg #[.int .u8 ((s % 256:Nat):Int),.int .u8 ((s / 2 ^ 8 % 256:Nat):Int),.int .u8 ((s / 2 ^ 16 % 256:Nat):Int),.int .u8 ((s / 2 ^ 24 % 256:Nat):Int)])∧St H w' L):=by
 refine enter (args:=[.int .u32 ((s:Nat):Int)]) (N:=15) Try.func58 rfl rfl rfl ?_
 refine c_seq (c_region (st_m (al95 (cs:=[.int .u8 0,.int .u8 0,.int .u8 0,.int .u8 0]) hs rfl) ?_))
 rintro _ w2 ⟨g1,rfl,hs4⟩
 refine c_nil (n_then (c_seq (c_region (st (v:=.int .u32 ((s:Nat):Int)) (x_move (.tmp rfl rfl)) ?_))))
 refine st (v:=.int .u8 (((s % 256):Nat):Int)) (x_conv (k:=.u32) (a:=((s:Nat):Int)) Try.underlying45 Try.underlying5 (.tmp rfl rfl) (wrapN _ rfl _)) ?_
 refine st (v:=.int .u32 ((s:Nat):Int)) (x_move (.tmp rfl rfl)) ?_
 have hb5:(s / 2 ^ 8) < 4294967296:=Nat.lt_of_le_of_lt (Nat.div_le_self _ _) b_s
 refine st (v:=.int .u32 (((s / 2 ^ 8):Nat):Int)) (x_shr (k:=.u32) (m:=s) (b:=8) rfl (.tmp rfl rfl) .const (by omega) (show _ < 2 ^ 32 from b_s)) ?_
 refine st (v:=.int .u8 ((((s / 2 ^ 8) % 256):Nat):Int)) (x_conv (k:=.u32) (a:=(((s / 2 ^ 8):Nat):Int)) Try.underlying45 Try.underlying5 (.tmp rfl rfl) (wrapN _ rfl _)) ?_
 refine st (v:=.int .u32 ((s:Nat):Int)) (x_move (.tmp rfl rfl)) ?_
 have hb6:(s / 2 ^ 16) < 4294967296:=Nat.lt_of_le_of_lt (Nat.div_le_self _ _) b_s
 refine st (v:=.int .u32 (((s / 2 ^ 16):Nat):Int)) (x_shr (k:=.u32) (m:=s) (b:=16) rfl (.tmp rfl rfl) .const (by omega) (show _ < 2 ^ 32 from b_s)) ?_
 refine st (v:=.int .u8 ((((s / 2 ^ 16) % 256):Nat):Int)) (x_conv (k:=.u32) (a:=(((s / 2 ^ 16):Nat):Int)) Try.underlying45 Try.underlying5 (.tmp rfl rfl) (wrapN _ rfl _)) ?_
 refine st (v:=.int .u32 ((s:Nat):Int)) (x_move (.tmp rfl rfl)) ?_
 have hb7:(s / 2 ^ 24) < 4294967296:=Nat.lt_of_le_of_lt (Nat.div_le_self _ _) b_s
 refine st (v:=.int .u32 (((s / 2 ^ 24):Nat):Int)) (x_shr (k:=.u32) (m:=s) (b:=24) rfl (.tmp rfl rfl) .const (by omega) (show _ < 2 ^ 32 from b_s)) ?_
 refine st (v:=.int .u8 ((((s / 2 ^ 24) % 256):Nat):Int)) (x_conv (k:=.u32) (a:=(((s / 2 ^ 24):Nat):Int)) Try.underlying45 Try.underlying5 (.tmp rfl rfl) (wrapN _ rfl _)) ?_
 refine st (v:=.agg #[.int .u8 (((s % 256):Nat):Int),.int .u8 ((((s / 2 ^ 8) % 256):Nat):Int),.int .u8 ((((s / 2 ^ 16) % 256):Nat):Int),.int .u8 ((((s / 2 ^ 24) % 256):Nat):Int)]) (x_bldArr (ps:=[(0,.int .u8 (((s % 256):Nat):Int)),(1,.int .u8 ((((s / 2 ^ 8) % 256):Nat):Int)),(2,.int .u8 ((((s / 2 ^ 16) % 256):Nat):Int)),(3,.int .u8 ((((s / 2 ^ 24) % 256):Nat):Int))]) Try.underlying95 inf95 inf5 (.cons (.tmp rfl rfl) (.cons (.tmp rfl rfl) (.cons (.tmp rfl rfl) (.cons (.tmp rfl rfl) Evp.nil)))) rfl) ?_
 refine st_m0 (sto95 (cs':=[.int .u8 (((s % 256):Nat):Int),.int .u8 ((((s / 2 ^ 8) % 256):Nat):Int),.int .u8 ((((s / 2 ^ 16) % 256):Nat):Int),.int .u8 ((((s / 2 ^ 24) % 256):Nat):Int)]) (i:=0) hs4 (v:=.agg #[.int .u8 (((s % 256):Nat):Int),.int .u8 ((((s / 2 ^ 8) % 256):Nat):Int),.int .u8 ((((s / 2 ^ 16) % 256):Nat):Int),.int .u8 ((((s / 2 ^ 24) % 256):Nat):Int)]) (.tmp rfl rfl) (.tmp rfl rfl) rfl (Nat.le_of_ble_eq_true rfl) (oneA rfl) rfl) ?_
 rintro w8 hs10
 refine c_nil (n_then (c_ret (leave_ret (res_one (v:=.agg #[.int .u8 (((s % 256):Nat):Int),.int .u8 ((((s / 2 ^ 8) % 256):Nat):Int),.int .u8 ((((s / 2 ^ 16) % 256):Nat):Int),.int .u8 ((((s / 2 ^ 24) % 256):Nat):Int)]) rfl (.mkCell rfl rfl (lv95 (cs:=[.int .u8 (((s % 256):Nat):Int),.int .u8 ((((s / 2 ^ 8) % 256):Nat):Int),.int .u8 ((((s / 2 ^ 16) % 256):Nat):Int),.int .u8 ((((s / 2 ^ 24) % 256):Nat):Int)]) (hs10.at_ 0 rfl 0 rfl) rfl))) ?_)))
 exact ⟨rfl,hs10.drop⟩
set_option maxHeartbeats 8000000 in
theorem seal_spec {H:Hp} {w:World} {L:List Res} (hs:St H w L) {A:Option Addr} {n c:Nat} {bs:List Nat} (hp:Bs H A n c bs) (hn:n ≤ 140737488355320):Calls Try.prog 28 #[.slice A n c] w (fun e w' => ∃ v,e = .returned v∧RowOk 1 v (n + 4) ((seal_ bs).map encB)∧St H w' (row 5 1 v (n + 4) ((seal_ bs).map encB)::L)):=by
 refine enter (args:=[.slice A n c]) (N:=11) Try.func28 rfl rfl rfl ?_
 have hle:=hp.le
 have hlen:=hp.len
 refine c_seq (c_region (st (v:=.slice none 0 0) (x_assign .const) ?_))
 refine c_nil (n_then (c_seq (c_region (st (v:=.slice A n c) (x_move (.tmp rfl rfl)) ?_))))
 refine st_c cb59 .func (evs1 (.tmp rfl rfl)) (sum_spec hs hp (by omega)) ?_
 rintro e w1 ⟨rfl,hs2⟩
 refine ⟨_,rfl,?_⟩
 refine st_c cb58 .func (evs1 (.tmp rfl rfl)) (four_spec hs2 (crc bs) (crc_lt _)) ?_
 rintro e w3 ⟨rfl,hs4⟩
 refine ⟨_,rfl,?_⟩
 refine st_m (al95 (cs:=[.int .u8 0,.int .u8 0,.int .u8 0,.int .u8 0]) hs4 rfl) ?_
 rintro _ w6 ⟨g5,rfl,hs8⟩
 refine st_m0 (sto95 (cs':=[.int .u8 (((crc bs) % 256:Nat):Int),.int .u8 (((crc bs) / 2 ^ 8 % 256:Nat):Int),.int .u8 (((crc bs) / 2 ^ 16 % 256:Nat):Int),.int .u8 (((crc bs) / 2 ^ 24 % 256:Nat):Int)]) (i:=0) hs8 (v:=.agg #[.int .u8 (((crc bs) % 256:Nat):Int),.int .u8 (((crc bs) / 2 ^ 8 % 256:Nat):Int),.int .u8 (((crc bs) / 2 ^ 16 % 256:Nat):Int),.int .u8 (((crc bs) / 2 ^ 24 % 256:Nat):Int)]) (.tmp rfl rfl) (.tmp rfl rfl) rfl (Nat.le_of_ble_eq_true rfl) (oneA rfl) rfl) ?_
 rintro w9 hs11
 refine c_nil (n_then (c_seq (s_region (L:=obj g5 95 [.int .u8 (((crc bs) % 256:Nat):Int),.int .u8 (((crc bs) / 2 ^ 8 % 256:Nat):Int),.int .u8 (((crc bs) / 2 ^ 16 % 256:Nat):Int),.int .u8 (((crc bs) / 2 ^ 24 % 256:Nat):Int)]::L) (L':=obj g5 95 [.int .u8 (((crc bs) % 256:Nat):Int),.int .u8 (((crc bs) / 2 ^ 8 % 256:Nat):Int),.int .u8 (((crc bs) / 2 ^ 16 % 256:Nat):Int),.int .u8 (((crc bs) / 2 ^ 24 % 256:Nat):Int)]::L) none [(0,true),(2,true),(1,false),(3,false),(4,true)] mixed hs11 (fun u hu => hu) (by kernel_rfl) ?_)))
 intro w12 hs13
 refine s_st (k:=0) (v:=.slice A n c) rfl (fun w hs => (x_move (.tmp rfl rfl))) ?_
 refine s_st (k:=2) (v:=.slice (some ⟨g5,0,none⟩) 4 4) rfl (fun w hs => (x_sliceArr Try.underlying95 inf5 (.tmp rfl rfl))) ?_
 refine s_eff (k:=1) rfl ?_
 refine st_m (m_appNil Try.underlying33 inf5 hs13 .const (.tmp rfl rfl) hp (by omega)) ?_
 rintro v14 w15 ⟨ok16,hs17⟩
 refine s_on (S':=fun u => St H u (obj g5 95 [.int .u8 (((crc bs) % 256:Nat):Int),.int .u8 (((crc bs) / 2 ^ 8 % 256:Nat):Int),.int .u8 (((crc bs) / 2 ^ 16 % 256:Nat):Int),.int .u8 (((crc bs) / 2 ^ 24 % 256:Nat):Int)]::L)) (fun u hu => hu) hs17.drop ?_
 refine s_eff (k:=3) rfl ?_
 refine st_m (m_appAt (bs:=[((crc bs) % 256),((crc bs) / 2 ^ 8 % 256),((crc bs) / 2 ^ 16 % 256),((crc bs) / 2 ^ 24 % 256)]) Try.underlying33 inf5 hs17 ok16 (.tmp rfl rfl) (.tmp rfl rfl) rfl (hs17.at_ 1 rfl 0 rfl) (by omega)) ?_
 rintro v19 w20 ⟨ok21,hs22⟩
 refine s_on (S':=fun u => St H u (obj g5 95 [.int .u8 (((crc bs) % 256:Nat):Int),.int .u8 (((crc bs) / 2 ^ 8 % 256:Nat):Int),.int .u8 (((crc bs) / 2 ^ 16 % 256:Nat):Int),.int .u8 (((crc bs) / 2 ^ 24 % 256:Nat):Int)]::L)) (fun u hu => hu) hs22.drop ?_
 refine s_st (k:=4) (v:=v19) rfl (fun w hs => (x_assign (.tmp rfl rfl))) ?_
 refine s_nil ?_
 refine n_then (c_ret (leave_ret (res_one (v:=v19) rfl (.mk rfl rfl)) ?_))
 exact ⟨_,rfl,ok21,(hs22.p1).drop⟩
end Go.Proofs.Ytlfihfmmhhcigaa

set_option linter.unusedVariables false
set_option linter.unusedSimpArgs false
namespace Go.Proofs.Ytlfihfmmhhcigaa
open Go Go.FM Go.Proofs
attribute [local irreducible] wpList wpQuiet wpS Code.wp Calls
set_option maxHeartbeats 8000000 in
theorem uint_spec {H:Hp} {w:World} {L:List Res} {v:Value} {n:Nat} {l:List Nat} (hs:St H w (row 5 1 v n (l.map encB)::L)) (ok:RowOk 1 v n (l.map encB)) (hsm:Small l) (m:Nat) (hn:n ≤ 140737488355310) (b_m:m < 18446744073709551616):Calls Try.prog 56 #[v,.int .u64 ((m:Nat):Int)] w (fun e w' => ∃ v',e = .returned v'∧RowOk 1 v' (n + (uenc m).length) ((l ++ uenc m).map encB)∧St H w' (row 5 1 v' (n + (uenc m).length) ((l ++ uenc m).map encB)::L)):=by
 refine enter (args:=[v,.int .u64 ((m:Nat):Int)]) (N:=20) Try.func56 rfl rfl rfl ?_
 have h10:=uenc_len10 b_m
 refine c_seq (c_region (st (v:=.slice none 0 0) (x_assign .const) ?_))
 refine c_nil (n_then (c_seq (c_block (c_loop (fun ρ w mm => ∃ (r:Nat) (u:Value) (k:Nat) (q:List Nat),ρ 0 = u∧ρ 1 = .int .u64 ((r:Nat):Int)∧(r < 18446744073709551616)∧(l ++ uenc m = q ++ uenc r)∧(k + (uenc r).length = n + (uenc m).length)∧(Small q)∧(RowOk 1 u k (q.map encB))∧St H w (row 5 1 u k (q.map encB)::L)∧mm = r + 1) _ ⟨m,v,n,l,rfl,rfl,b_m,rfl,rfl,hsm,ok,hs,rfl⟩ ?_))))
 rintro ρ w mm ⟨r,u,k,q,hρ2,hρ3,hr,hm,hk,hq,ok2,hs4,rfl⟩
 refine c_seq (c_seq (c_region (st (v:=.int .u64 ((r:Nat):Int)) (x_move (.tmp rfl hρ3)) ?_)))
 refine st (v:=.bool (decide ((128:Int) ≤ ((r:Nat):Int)))) (x_geq (k:=.u64) (a:=((r:Nat):Int)) (b:=128) (.tmp rfl rfl) .const) ?_
 refine c_nil (n_then ?_)
 rcases Bool.eq_false_or_eq_true (decide ((128:Int) ≤ ((r:Nat):Int))) with hc5 | hc5
 have hp5:(128:Int) ≤ ((r:Nat):Int):=of_decide_eq_true hc5
 refine c_cond_t (t:=true) (.tmp rfl (congrArg Value.bool hc5)) rfl ?_
 refine c_skip (n_then (c_block (c_seq (c_region ?_))))
 have hb1:¬ r < 128:=by omega
 have hk1:(uenc r).length = (uenc (r / 2 ^ 7)).length + 1:=by rw [uenc_big hb1]; rfl
 have hb2:r / 2 ^ 7 < r:=by omega
 refine st (v:=u) (x_move (.tmp rfl hρ2)) ?_
 refine st (v:=.int .u64 ((r:Nat):Int)) (x_move (.tmp rfl hρ3)) ?_
 refine st (v:=.int .u8 (((r % 256):Nat):Int)) (x_conv (k:=.u64) (a:=((r:Nat):Int)) Try.underlying22 Try.underlying5 (.tmp rfl rfl) (wrapN _ rfl _)) ?_
 have hb6:((r % 256) ||| 128) < 256:=Nat.or_lt_two_pow (n:=8) (Nat.mod_lt _ (by decide)) (by decide)
 refine st (v:=.int .u8 ((((r % 256) ||| 128):Nat):Int)) (x_or (k:=.u8) (m:=(r % 256)) (n:=128) rfl (.tmp rfl rfl) .const (show _ < 2 ^ 8 from (Nat.mod_lt _ (by decide))) (show _ < 2 ^ 8 from (by decide))) ?_
 refine st_m (m_lit (n:=1) (ps:=[(0,.int .u8 ((((r % 256) ||| 128):Nat):Int))]) (cs:=[.int .u8 ((((r % 256) ||| 128):Nat):Int)]) Try.underlying33 inf5 (.cons (.tmp rfl rfl) Evp.nil) (by decide) (by decide) rfl rfl hs4) ?_
 rintro _ w8 ⟨g7,rfl,hs10⟩
 have hs11:=hs10.p1
 refine st_m (m_appAt (bs:=[((r % 256) ||| 128)]) Try.underlying33 inf5 hs11 ok2 (.tmp rfl rfl) (.tmp rfl rfl) rfl (hs11.at_ 1 rfl 0 rfl) (by omega)) ?_
 rintro v12 w13 ⟨ok14,hs15⟩
 refine st (v:=v12) (x_assign (.tmp rfl rfl)) ?_
 refine c_nil (n_then (c_region (st (v:=.int .u64 ((r:Nat):Int)) (x_move (.tmp rfl hρ3)) ?_)))
 have hb16:(r / 2 ^ 7) < 18446744073709551616:=Nat.lt_of_le_of_lt (Nat.div_le_self _ _) hr
 refine st (v:=.int .u64 (((r / 2 ^ 7):Nat):Int)) (x_shr (k:=.u64) (m:=r) (b:=7) rfl (.tmp rfl rfl) .const (by omega) (show _ < 2 ^ 64 from hr)) ?_
 refine st (v:=.int .u64 (((r / 2 ^ 7):Nat):Int)) (x_assign (.tmp rfl rfl)) ?_
 refine c_nil (n_block ?_)
 refine n_then ⟨_,_,rfl,?_,(r / 2 ^ 7),v12,(k + 1),(q ++ [((r % 256) ||| 128)]),rfl,rfl,hb16,(by rw [uenc_big hb1] at hm; rw [hm,or128]; simp),(by have:=hk1; omega),(hq.append (Small.cons hb6 Small.nil)),ok14,(hs15.p1).drop,rfl⟩
 exact Nat.succ_lt_succ hb2
 have hp5:¬ ((128:Int) ≤ ((r:Nat):Int)):=of_decide_eq_false hc5
 refine c_cond_f (t:=false) (.tmp rfl (congrArg Value.bool hc5)) rfl ?_
 refine c_exit (x_then (x_then (x_here (n_then (c_seq (c_region ?_))))))
 have hb1:r < 128:=by omega
 have hk1:(uenc r).length = 1:=by rw [uenc_one hb1]; rfl
 refine st (v:=u) (x_move (.tmp rfl hρ2)) ?_
 refine st (v:=.int .u64 ((r:Nat):Int)) (x_move (.tmp rfl hρ3)) ?_
 refine st (v:=.int .u8 (((r % 256):Nat):Int)) (x_conv (k:=.u64) (a:=((r:Nat):Int)) Try.underlying22 Try.underlying5 (.tmp rfl rfl) (wrapN _ rfl _)) ?_
 refine st_m (m_lit (n:=1) (ps:=[(0,.int .u8 (((r % 256):Nat):Int))]) (cs:=[.int .u8 (((r % 256):Nat):Int)]) Try.underlying33 inf5 (.cons (.tmp rfl rfl) Evp.nil) (by decide) (by decide) rfl rfl hs4) ?_
 rintro _ w18 ⟨g17,rfl,hs20⟩
 have hs21:=hs20.p1
 refine st_m (m_appAt (bs:=[(r % 256)]) Try.underlying33 inf5 hs21 ok2 (.tmp rfl rfl) (.tmp rfl rfl) rfl (hs21.at_ 1 rfl 0 rfl) (by omega)) ?_
 rintro v22 w23 ⟨ok24,hs25⟩
 refine st (v:=v22) (x_assign (.tmp rfl rfl)) ?_
 refine c_nil (n_then (c_ret (leave_ret (res_one (v:=v22) rfl (.mk rfl rfl)) ?_)))
 have hmod:r % 256 = r:=by omega
 have e1:l ++ uenc m = q ++ [r % 256]:=by rw [hm,uenc_one hb1,hmod]
 have e2:n + (uenc m).length = k + 1:=by omega
 rw [e1,e2]
 exact ⟨_,rfl,ok24,(hs25.p1).drop⟩
end Go.Proofs.Ytlfihfmmhhcigaa

set_option linter.unusedVariables false
set_option linter.unusedSimpArgs false
namespace Go.Proofs.Ytlfihfmmhhcigaa
open Go Go.FM Go.Proofs
attribute [local irreducible] wpList wpQuiet wpS Code.wp Calls
end Go.Proofs.Ytlfihfmmhhcigaa

set_option linter.unusedVariables false
set_option linter.unusedSimpArgs false
namespace Go.Proofs.Ytlfihfmmhhcigaa
open Go Go.FM Go.Proofs
attribute [local irreducible] wpList wpQuiet wpS Code.wp Calls
end Go.Proofs.Ytlfihfmmhhcigaa

set_option linter.unusedVariables false
set_option linter.unusedSimpArgs false
namespace Go.Proofs.Ytlfihfmmhhcigaa
open Go Go.FM Go.Proofs
attribute [local irreducible] wpList wpQuiet wpS Code.wp Calls
end Go.Proofs.Ytlfihfmmhhcigaa

set_option linter.unusedVariables false
set_option linter.unusedSimpArgs false
namespace Go.Proofs.Ytlfihfmmhhcigaa
open Go Go.FM Go.Proofs
attribute [local irreducible] wpList wpQuiet wpS Code.wp Calls
end Go.Proofs.Ytlfihfmmhhcigaa

set_option linter.unusedVariables false
set_option linter.unusedSimpArgs false
namespace Go.Proofs.Ytlfihfmmhhcigaa
open Go Go.FM Go.Proofs
attribute [local irreducible] wpList wpQuiet wpS Code.wp Calls
set_option maxHeartbeats 8000000 in
theorem end_spec {H:Hp} {w:World} {L:List Res} (hs:St H w (L)) (s:GState) {k_s:List Value} (h_s:kState.rep H s k_s) (hF1:0 ≤ s.Floor) (hF2:s.Floor ≤ 1073741824):Calls Try.prog 63 #[.agg k_s.toArray] w (fun e w' => e = .returned (.int .i64 (sEnd s))∧St H w' (L)):=by
 obtain ⟨A6,n7,c8,rfl,b1,⟨b2,b3⟩,⟨b4,b5⟩,hl9⟩:=h_s
 have:=hl9.len; have:n7 * 32 ≤ 140737488351232:=hl9.bnd; have:=hl9.le
 refine enter (args:=[.agg #[.int .u64 ((s.V.N:Nat):Int),.int .i64 s.V.P,.int .i64 s.Floor,.slice A6 n7 c8]]) (N:=9) Try.func63 rfl rfl rfl ?_
 refine c_seq (c_region (st_m (m_box (cs:=[.int .u64 ((s.V.N:Nat):Int),.int .i64 s.V.P,.int .i64 s.Floor,.slice A6 n7 c8]) hs (v:=.agg #[.int .u64 ((s.V.N:Nat):Int),.int .i64 s.V.P,.int .i64 s.Floor,.slice A6 n7 c8]) (.tmp rfl rfl) rfl) ?_))
 rintro _ w11 ⟨g10,rfl,hs13⟩
 refine st (v:=.int .i64 0) (x_assign .const) ?_
 refine c_nil (n_then (c_seq (c_region (st (v:=.pointer (some ⟨g10,0 + 2,none⟩)) (fa52_1 (.tmp rfl rfl)) ?_))))
 refine st (v:=.int .i64 s.Floor) (ld3 (.tmp rfl rfl) (hs13.cell 0 rfl (0 + 2) rfl)) ?_
 refine st (v:=.pointer (some ⟨g10,0 + 3,none⟩)) (fa52_2 (.tmp rfl rfl)) ?_
 refine st (v:=.slice A6 n7 c8) (ld28 (.tmp rfl rfl) (hs13.cell 0 rfl (0 + 3) rfl)) ?_
 refine st (v:=.int .i64 ((n7:Nat):Int)) (x_len (n:=n7) Try.underlying28 (.tmp rfl rfl)) ?_
 refine st (v:=.int .i64 (s.Floor + ((n7:Nat):Int))) (x_add (k:=.i64) (a:=s.Floor) (b:=((n7:Nat):Int)) (.tmp rfl rfl) (.tmp rfl rfl) (w64 (by omega) (by omega))) ?_
 refine st (v:=.int .i64 (s.Floor + ((n7:Nat):Int))) (x_assign (.tmp rfl rfl)) ?_
 refine c_nil (n_then (c_ret (leave_ret (res_one (v:=.int .i64 (s.Floor + ((n7:Nat):Int))) rfl (.mk rfl rfl)) ?_)))
 have hans14:sEnd s = (s.Floor + ((n7:Nat):Int)):=by unfold sEnd; omega
 rw [hans14]
 exact ⟨rfl,hs13.drop⟩
set_option maxHeartbeats 8000000 in
theorem items_spec {H:Hp} {w:World} {L:List Res} (hs:St H w (L)) {A_a:Option Addr} {n_a c_a:Nat} (a:(List GItem)) (h_a:Sl kItem H A_a n_a c_a a) {A_b:Option Addr} {n_b c_b:Nat} (b:(List GItem)) (h_b:Sl kItem H A_b n_b c_b b):Calls Try.prog 30 #[.slice A_a n_a c_a,.slice A_b n_b c_b] w (fun e w' => e = .returned (.bool (decide (a = b)))∧St H w' (L)):=by
 have:=h_a.len; have:=h_a.le; have:n_a * 32 ≤ 140737488351232:=h_a.bnd
 have:=h_b.len; have:=h_b.le; have:n_b * 32 ≤ 140737488351232:=h_b.bnd
 refine enter (args:=[.slice A_a n_a c_a,.slice A_b n_b c_b]) (N:=43) Try.func30 rfl rfl rfl ?_
 refine c_seq (c_region (st (v:=.bool false) (x_assign .const) ?_))
 refine c_nil (n_then (c_seq (c_seq (c_region (st (v:=.slice A_a n_a c_a) (x_move (.tmp rfl rfl)) ?_)))))
 refine st (v:=.int .i64 ((n_a:Nat):Int)) (x_len (n:=n_a) Try.underlying28 (.tmp rfl rfl)) ?_
 refine st (v:=.slice A_b n_b c_b) (x_move (.tmp rfl rfl)) ?_
 refine st (v:=.int .i64 ((n_b:Nat):Int)) (x_len (n:=n_b) Try.underlying28 (.tmp rfl rfl)) ?_
 refine st (v:=.bool (decide ((((n_a:Nat):Int):Int) ≠ ((n_b:Nat):Int)))) (x_neq (k:=.i64) (a:=((n_a:Nat):Int)) (b:=((n_b:Nat):Int)) (.tmp rfl rfl) (.tmp rfl rfl)) ?_
 refine c_nil (n_then ?_)
 rcases Bool.eq_false_or_eq_true (decide ((((n_a:Nat):Int):Int) ≠ ((n_b:Nat):Int))) with hc1 | hc1
 have hp1:(((n_a:Nat):Int):Int) ≠ ((n_b:Nat):Int):=of_decide_eq_true hc1
 refine c_cond_t (t:=true) (.tmp rfl (congrArg Value.bool hc1)) rfl ?_
 refine c_seq (c_region (st (v:=.bool false) (x_assign .const) ?_))
 refine c_nil (n_then (c_ret (r_then (leave_ret (res_one (v:=.bool false) rfl (.mk rfl rfl)) ?_))))
 have hans2:decide (a = b) = false:=lists_ne_len (by omega)
 rw [hans2]
 exact ⟨rfl,hs⟩
 have hp1:¬ ((((n_a:Nat):Int):Int) ≠ ((n_b:Nat):Int)):=of_decide_eq_false hc1
 refine c_cond_f (t:=false) (.tmp rfl (congrArg Value.bool hc1)) rfl ?_
 refine c_skip (n_then (c_seq (c_seq (c_region (st (v:=.int .i64 0) (x_assign .const) ?_)))))
 refine c_nil (n_then (c_block (c_loop (fun ρ w mm => ∃ (i:Nat),ρ 0 = .slice A_a n_a c_a∧ρ 1 = .slice A_b n_b c_b∧ρ 5 = .int .i64 ((i:Nat):Int)∧(i ≤ n_a)∧(a.take i = b.take i)∧St H w (L)∧mm = n_a - i) _ ⟨0,rfl,rfl,rfl,(by omega),rfl,hs,rfl⟩ ?_)))
 rintro ρ w mm ⟨i,hρ4,hρ5,hρ6,hi,ht,hs7,rfl⟩
 refine c_seq (c_seq (c_region (st (v:=.int .i64 ((i:Nat):Int)) (x_move (.tmp rfl hρ6)) ?_)))
 refine st (v:=.slice A_a n_a c_a) (x_move (.tmp rfl hρ4)) ?_
 refine st (v:=.int .i64 ((n_a:Nat):Int)) (x_len (n:=n_a) Try.underlying28 (.tmp rfl rfl)) ?_
 refine st (v:=.bool (decide ((((i:Nat):Int):Int) < ((n_a:Nat):Int)))) (x_lss (k:=.i64) (a:=((i:Nat):Int)) (b:=((n_a:Nat):Int)) (.tmp rfl rfl) (.tmp rfl rfl)) ?_
 refine c_nil (n_then ?_)
 rcases Bool.eq_false_or_eq_true (decide ((((i:Nat):Int):Int) < ((n_a:Nat):Int))) with hc8 | hc8
 have hp8:(((i:Nat):Int):Int) < ((n_a:Nat):Int):=of_decide_eq_true hc8
 refine c_cond_t (t:=true) (.tmp rfl (congrArg Value.bool hc8)) rfl ?_
 refine c_skip (n_then (c_seq (c_block (c_seq (q_region mixed hs7 (by kernel_rfl) ?_)))))
 refine q_st (v:=.slice A_a n_a c_a) (fun w hs => (x_move (.tmp rfl hρ4))) ?_
 refine q_st (v:=.int .i64 ((i:Nat):Int)) (fun w hs => (x_move (.tmp rfl hρ6))) ?_
 obtain ⟨e9,b10,o11,cs12,hx13,hA14,hr15,hat16⟩:=h_a.get (i:=i) (by omega)
 obtain ⟨A19,n20,c21,rfl,⟨b17,b18⟩,hy22⟩:=hr15
 have:=hy22.len; have:=hy22.bnd; have:=hy22.le
 have hat16x:∀ {w:World} {L:List Res},St H w L → At w ⟨b10,o11 + i * 2,none⟩ [.int .i64 e9.From,.slice A19 n20 c21]:=fun h => hat16 h
 refine q_st (v:=.pointer (some ⟨b10,(o11 + i * 2),none⟩)) (fun w hs => (ixo28 (.tmp rfl rfl) hA14 (i:=((i:Nat):Int)) (.tmp rfl rfl) (by omega) (by omega) (by omega))) ?_
 refine q_st (v:=.pointer (some ⟨b10,(o11 + i * 2) + 0,none⟩)) (fun w hs => (fa49_0 (.tmp rfl rfl))) ?_
 refine q_st (v:=.int .i64 e9.From) (fun w hs => (ld3 (.tmp rfl rfl) ((hat16x hs).cell 0 rfl))) ?_
 refine q_st (v:=.slice A_b n_b c_b) (fun w hs => (x_move (.tmp rfl hρ5))) ?_
 refine q_st (v:=.int .i64 ((i:Nat):Int)) (fun w hs => (x_move (.tmp rfl hρ6))) ?_
 obtain ⟨e23,b24,o25,cs26,hx27,hA28,hr29,hat30⟩:=h_b.get (i:=i) (by omega)
 obtain ⟨A33,n34,c35,rfl,⟨b31,b32⟩,hy36⟩:=hr29
 have:=hy36.len; have:=hy36.bnd; have:=hy36.le
 have hat30x:∀ {w:World} {L:List Res},St H w L → At w ⟨b24,o25 + i * 2,none⟩ [.int .i64 e23.From,.slice A33 n34 c35]:=fun h => hat30 h
 refine q_st (v:=.pointer (some ⟨b24,(o25 + i * 2),none⟩)) (fun w hs => (ixo28 (.tmp rfl rfl) hA28 (i:=((i:Nat):Int)) (.tmp rfl rfl) (by omega) (by omega) (by omega))) ?_
 refine q_st (v:=.pointer (some ⟨b24,(o25 + i * 2) + 0,none⟩)) (fun w hs => (fa49_0 (.tmp rfl rfl))) ?_
 refine q_st (v:=.int .i64 e23.From) (fun w hs => (ld3 (.tmp rfl rfl) ((hat30x hs).cell 0 rfl))) ?_
 refine q_st (v:=.bool (decide ((e9.From:Int) ≠ e23.From))) (fun w hs => (x_neq (k:=.i64) (a:=e9.From) (b:=e23.From) (.tmp rfl rfl) (.tmp rfl rfl))) ?_
 refine q_st (v:=.bool (decide ((e9.From:Int) ≠ e23.From))) (fun w hs => (x_move (.tmp rfl rfl))) ?_
 rcases Bool.eq_false_or_eq_true (decide ((e9.From:Int) ≠ e23.From)) with hc37 | hc37
 have hp37:(e9.From:Int) ≠ e23.From:=of_decide_eq_true hc37
 refine q_no (yk 28 true rfl rfl hc37) rfl ?_
 refine q_no (yk 28 true rfl rfl hc37) rfl ?_
 refine q_no (yk 28 true rfl rfl hc37) rfl ?_
 refine q_no (yk 28 true rfl rfl hc37) rfl ?_
 refine q_no (yk 28 true rfl rfl hc37) rfl ?_
 refine q_no (yk 28 true rfl rfl hc37) rfl ?_
 refine q_no (yk 28 true rfl rfl hc37) rfl ?_
 refine q_no (yk 28 true rfl rfl hc37) rfl ?_
 refine q_no (yk 28 true rfl rfl hc37) rfl ?_
 refine q_no (yk 28 true rfl rfl hc37) rfl ?_
 refine q_no (yk 28 true rfl rfl hc37) rfl ?_
 refine q_no (yk 28 true rfl rfl hc37) rfl ?_
 refine q_no (yk 28 true rfl rfl hc37) rfl ?_
 refine q_st (v:=.bool true) (fun w hs => (x_pick_t (.tmp rfl (congrArg Value.bool hc37)) .const)) ?_
 refine q_nil ?_
 intro w hs38
 refine n_then (c_cond_t (t:=true) (.tmp rfl rfl) rfl ?_)
 refine c_seq (c_region (st (v:=.bool false) (x_assign .const) ?_))
 refine c_nil (n_then (c_ret (r_block (r_then (r_then (r_block (r_then (leave_ret (res_one (v:=.bool false) rfl (.mk rfl rfl)) ?_))))))))
 have hans39:decide (a = b) = false:=lists_ne_at hx13 hx27 (item_ne_from (by omega))
 rw [hans39]
 exact ⟨rfl,hs38⟩
 have hp37:¬ ((e9.From:Int) ≠ e23.From):=of_decide_eq_false hc37
 refine q_yes (yk 28 false rfl rfl hc37) ?_
 refine q_st (v:=.slice A_a n_a c_a) (fun w hs => (x_move (.tmp rfl hρ4))) ?_
 refine q_yes (yk 28 false rfl rfl hc37) ?_
 refine q_st (v:=.int .i64 ((i:Nat):Int)) (fun w hs => (x_move (.tmp rfl hρ6))) ?_
 refine q_yes (yk 28 false rfl rfl hc37) ?_
 refine q_st (v:=.pointer (some ⟨b10,(o11 + i * 2),none⟩)) (fun w hs => (ixo28 (.tmp rfl rfl) hA14 (i:=((i:Nat):Int)) (.tmp rfl rfl) (by omega) (by omega) (by omega))) ?_
 refine q_yes (yk 28 false rfl rfl hc37) ?_
 refine q_st (v:=.pointer (some ⟨b10,(o11 + i * 2) + 1,none⟩)) (fun w hs => (fa49_1 (.tmp rfl rfl))) ?_
 refine q_yes (yk 28 false rfl rfl hc37) ?_
 refine q_st (v:=.slice A19 n20 c21) (fun w hs => (ld33 (.tmp rfl rfl) ((hat16x hs).cell 1 rfl))) ?_
 refine q_yes (yk 28 false rfl rfl hc37) ?_
 refine q_st (v:=.string (bstr e9.M)) (fun w hs => (hy22.toBs.str Try.underlying33 Try.underlying5 Try.underlying9 hs (.tmp rfl rfl))) ?_
 refine q_yes (yk 28 false rfl rfl hc37) ?_
 refine q_st (v:=.slice A_b n_b c_b) (fun w hs => (x_move (.tmp rfl hρ5))) ?_
 refine q_yes (yk 28 false rfl rfl hc37) ?_
 refine q_st (v:=.int .i64 ((i:Nat):Int)) (fun w hs => (x_move (.tmp rfl hρ6))) ?_
 refine q_yes (yk 28 false rfl rfl hc37) ?_
 refine q_st (v:=.pointer (some ⟨b24,(o25 + i * 2),none⟩)) (fun w hs => (ixo28 (.tmp rfl rfl) hA28 (i:=((i:Nat):Int)) (.tmp rfl rfl) (by omega) (by omega) (by omega))) ?_
 refine q_yes (yk 28 false rfl rfl hc37) ?_
 refine q_st (v:=.pointer (some ⟨b24,(o25 + i * 2) + 1,none⟩)) (fun w hs => (fa49_1 (.tmp rfl rfl))) ?_
 refine q_yes (yk 28 false rfl rfl hc37) ?_
 refine q_st (v:=.slice A33 n34 c35) (fun w hs => (ld33 (.tmp rfl rfl) ((hat30x hs).cell 1 rfl))) ?_
 refine q_yes (yk 28 false rfl rfl hc37) ?_
 refine q_st (v:=.string (bstr e23.M)) (fun w hs => (hy36.toBs.str Try.underlying33 Try.underlying5 Try.underlying9 hs (.tmp rfl rfl))) ?_
 refine q_yes (yk 28 false rfl rfl hc37) ?_
 refine q_st (v:=.bool (!decide ((bstr e9.M) = (bstr e23.M)))) (fun w hs => (x_neqS (.tmp rfl rfl) (.tmp rfl rfl))) ?_
 refine q_st (v:=.bool (!decide ((bstr e9.M) = (bstr e23.M)))) (fun w hs => (x_pick_f (.tmp rfl (congrArg Value.bool hc37)) (.tmp rfl rfl))) ?_
 refine q_nil ?_
 intro w hs40
 refine n_then ?_
 rcases Bool.eq_false_or_eq_true (decide ((bstr e9.M) = (bstr e23.M))) with hc41 | hc41
 have hp41:(bstr e9.M) = (bstr e23.M):=of_decide_eq_true hc41
 refine c_cond_f (t:=false) (.tmp rfl (congrArg Value.bool (by rw [hc41]; rfl))) rfl ?_
 refine c_skip (n_block (n_then (c_region (st (v:=.int .i64 ((i:Nat):Int)) (x_move (.tmp rfl hρ6)) ?_))))
 refine st (v:=.int .i64 (((i + 1):Nat):Int)) (x_add (k:=.i64) (a:=((i:Nat):Int)) (b:=1) (.tmp rfl rfl) .const ((w64 (by omega) (by omega)).trans (by omega))) ?_
 refine st (v:=.int .i64 (((i + 1):Nat):Int)) (x_assign (.tmp rfl rfl)) ?_
 refine c_nil ?_
 refine n_then ⟨_,_,rfl,?_,(i + 1),hρ4,hρ5,rfl,(by omega),(take_eq_next ht hx13 hx27 (item_eq (by omega) hp41 hy22.lt hy36.lt)),hs40,rfl⟩
 omega
 have hp41:¬ ((bstr e9.M) = (bstr e23.M)):=of_decide_eq_false hc41
 refine c_cond_t (t:=true) (.tmp rfl (congrArg Value.bool (by rw [hc41]; rfl))) rfl ?_
 refine c_seq (c_region (st (v:=.bool false) (x_assign .const) ?_))
 refine c_nil (n_then (c_ret (r_block (r_then (r_then (r_block (r_then (leave_ret (res_one (v:=.bool false) rfl (.mk rfl rfl)) ?_))))))))
 have hans42:decide (a = b) = false:=lists_ne_at hx13 hx27 (item_ne_m hp41)
 rw [hans42]
 exact ⟨rfl,hs40⟩
 have hp8:¬ ((((i:Nat):Int):Int) < ((n_a:Nat):Int)):=of_decide_eq_false hc8
 refine c_cond_f (t:=false) (.tmp rfl (congrArg Value.bool hc8)) rfl ?_
 refine c_exit (x_then (x_then (x_here (n_then (c_seq (c_region (st (v:=.bool true) (x_assign .const) ?_)))))))
 refine c_nil (n_then (c_ret (leave_ret (res_one (v:=.bool true) rfl (.mk rfl rfl)) ?_)))
 have hans43:decide (a = b) = true:=lists_eq ht (by omega) (by omega)
 rw [hans43]
 exact ⟨rfl,hs7⟩
set_option maxHeartbeats 8000000 in
theorem same_spec {H:Hp} {w:World} {L:List Res} (hs:St H w (L)) {A_a:Option Addr} {n_a c_a:Nat} (a:(List GState)) (h_a:Sl kState H A_a n_a c_a a) {A_b:Option Addr} {n_b c_b:Nat} (b:(List GState)) (h_b:Sl kState H A_b n_b c_b b):Calls Try.prog 29 #[.slice A_a n_a c_a,.slice A_b n_b c_b] w (fun e w' => e = .returned (.bool (decide (a = b)))∧St H w' (L)):=by
 have:=h_a.len; have:=h_a.le; have:n_a * 48 ≤ 140737488351232:=h_a.bnd
 have:=h_b.len; have:=h_b.le; have:n_b * 48 ≤ 140737488351232:=h_b.bnd
 refine enter (args:=[.slice A_a n_a c_a,.slice A_b n_b c_b]) (N:=55) Try.func29 rfl rfl rfl ?_
 refine c_seq (c_region (st (v:=.bool false) (x_assign .const) ?_))
 refine c_nil (n_then (c_seq (c_seq (c_region (st (v:=.slice A_a n_a c_a) (x_move (.tmp rfl rfl)) ?_)))))
 refine st (v:=.int .i64 ((n_a:Nat):Int)) (x_len (n:=n_a) Try.underlying26 (.tmp rfl rfl)) ?_
 refine st (v:=.slice A_b n_b c_b) (x_move (.tmp rfl rfl)) ?_
 refine st (v:=.int .i64 ((n_b:Nat):Int)) (x_len (n:=n_b) Try.underlying26 (.tmp rfl rfl)) ?_
 refine st (v:=.bool (decide ((((n_a:Nat):Int):Int) ≠ ((n_b:Nat):Int)))) (x_neq (k:=.i64) (a:=((n_a:Nat):Int)) (b:=((n_b:Nat):Int)) (.tmp rfl rfl) (.tmp rfl rfl)) ?_
 refine c_nil (n_then ?_)
 rcases Bool.eq_false_or_eq_true (decide ((((n_a:Nat):Int):Int) ≠ ((n_b:Nat):Int))) with hc1 | hc1
 have hp1:(((n_a:Nat):Int):Int) ≠ ((n_b:Nat):Int):=of_decide_eq_true hc1
 refine c_cond_t (t:=true) (.tmp rfl (congrArg Value.bool hc1)) rfl ?_
 refine c_seq (c_region (st (v:=.bool false) (x_assign .const) ?_))
 refine c_nil (n_then (c_ret (r_then (leave_ret (res_one (v:=.bool false) rfl (.mk rfl rfl)) ?_))))
 have hans2:decide (a = b) = false:=lists_ne_len (by omega)
 rw [hans2]
 exact ⟨rfl,hs⟩
 have hp1:¬ ((((n_a:Nat):Int):Int) ≠ ((n_b:Nat):Int)):=of_decide_eq_false hc1
 refine c_cond_f (t:=false) (.tmp rfl (congrArg Value.bool hc1)) rfl ?_
 refine c_skip (n_then (c_seq (c_seq (c_region (st (v:=.int .i64 0) (x_assign .const) ?_)))))
 refine c_nil (n_then (c_block (c_loop (fun ρ w mm => ∃ (i:Nat),ρ 0 = .slice A_a n_a c_a∧ρ 1 = .slice A_b n_b c_b∧ρ 5 = .int .i64 ((i:Nat):Int)∧(i ≤ n_a)∧(a.take i = b.take i)∧St H w (L)∧mm = n_a - i) _ ⟨0,rfl,rfl,rfl,(by omega),rfl,hs,rfl⟩ ?_)))
 rintro ρ w mm ⟨i,hρ4,hρ5,hρ6,hi,ht,hs7,rfl⟩
 refine c_seq (c_seq (c_region (st (v:=.int .i64 ((i:Nat):Int)) (x_move (.tmp rfl hρ6)) ?_)))
 refine st (v:=.slice A_a n_a c_a) (x_move (.tmp rfl hρ4)) ?_
 refine st (v:=.int .i64 ((n_a:Nat):Int)) (x_len (n:=n_a) Try.underlying26 (.tmp rfl rfl)) ?_
 refine st (v:=.bool (decide ((((i:Nat):Int):Int) < ((n_a:Nat):Int)))) (x_lss (k:=.i64) (a:=((i:Nat):Int)) (b:=((n_a:Nat):Int)) (.tmp rfl rfl) (.tmp rfl rfl)) ?_
 refine c_nil (n_then ?_)
 rcases Bool.eq_false_or_eq_true (decide ((((i:Nat):Int):Int) < ((n_a:Nat):Int))) with hc8 | hc8
 have hp8:(((i:Nat):Int):Int) < ((n_a:Nat):Int):=of_decide_eq_true hc8
 refine c_cond_t (t:=true) (.tmp rfl (congrArg Value.bool hc8)) rfl ?_
 refine c_skip (n_then (c_seq (c_block (c_seq (q_region mixed hs7 (by kernel_rfl) ?_)))))
 refine q_st (v:=.slice A_a n_a c_a) (fun w hs => (x_move (.tmp rfl hρ4))) ?_
 refine q_st (v:=.int .i64 ((i:Nat):Int)) (fun w hs => (x_move (.tmp rfl hρ6))) ?_
 obtain ⟨e9,b10,o11,cs12,hx13,hA14,hr15,hat16⟩:=h_a.get (i:=i) (by omega)
 obtain ⟨A22,n23,c24,rfl,b17,⟨b18,b19⟩,⟨b20,b21⟩,hl25⟩:=hr15
 have:=hl25.len; have:n23 * 32 ≤ 140737488351232:=hl25.bnd; have:=hl25.le
 have hat16x:∀ {w:World} {L:List Res},St H w L → At w ⟨b10,o11 + i * 4,none⟩ [.int .u64 ((e9.V.N:Nat):Int),.int .i64 e9.V.P,.int .i64 e9.Floor,.slice A22 n23 c24]:=fun h => hat16 h
 refine q_st (v:=.pointer (some ⟨b10,(o11 + i * 4),none⟩)) (fun w hs => (ixo26 (.tmp rfl rfl) hA14 (i:=((i:Nat):Int)) (.tmp rfl rfl) (by omega) (by omega) (by omega))) ?_
 refine q_st (v:=.pointer (some ⟨b10,(o11 + i * 4) + 0,none⟩)) (fun w hs => (fa52_0 (.tmp rfl rfl))) ?_
 refine q_st (v:=.agg #[.int .u64 ((e9.V.N:Nat):Int),.int .i64 e9.V.P]) (fun w hs => (ld24 (cs:=[.int .u64 ((e9.V.N:Nat):Int),.int .i64 e9.V.P]) (.tmp rfl rfl) ((hat16x hs).sub 0 rfl) rfl)) ?_
 refine q_st (v:=.slice A_b n_b c_b) (fun w hs => (x_move (.tmp rfl hρ5))) ?_
 refine q_st (v:=.int .i64 ((i:Nat):Int)) (fun w hs => (x_move (.tmp rfl hρ6))) ?_
 obtain ⟨e26,b27,o28,cs29,hx30,hA31,hr32,hat33⟩:=h_b.get (i:=i) (by omega)
 obtain ⟨A39,n40,c41,rfl,b34,⟨b35,b36⟩,⟨b37,b38⟩,hl42⟩:=hr32
 have:=hl42.len; have:n40 * 32 ≤ 140737488351232:=hl42.bnd; have:=hl42.le
 have hat33x:∀ {w:World} {L:List Res},St H w L → At w ⟨b27,o28 + i * 4,none⟩ [.int .u64 ((e26.V.N:Nat):Int),.int .i64 e26.V.P,.int .i64 e26.Floor,.slice A39 n40 c41]:=fun h => hat33 h
 refine q_st (v:=.pointer (some ⟨b27,(o28 + i * 4),none⟩)) (fun w hs => (ixo26 (.tmp rfl rfl) hA31 (i:=((i:Nat):Int)) (.tmp rfl rfl) (by omega) (by omega) (by omega))) ?_
 refine q_st (v:=.pointer (some ⟨b27,(o28 + i * 4) + 0,none⟩)) (fun w hs => (fa52_0 (.tmp rfl rfl))) ?_
 refine q_st (v:=.agg #[.int .u64 ((e26.V.N:Nat):Int),.int .i64 e26.V.P]) (fun w hs => (ld24 (cs:=[.int .u64 ((e26.V.N:Nat):Int),.int .i64 e26.V.P]) (.tmp rfl rfl) ((hat33x hs).sub 0 rfl) rfl)) ?_
 refine q_st (v:=.bool (!((((e9.V.N:Nat):Int) == ((e26.V.N:Nat):Int)) && ((e9.V.P == e26.V.P) && true)))) (fun w hs => (x_neqA eqg24 (.tmp rfl rfl) (.tmp rfl rfl) (fun d => eqs24 (d + 98) _ ((e9.V.N:Nat):Int) ((e26.V.N:Nat):Int) e9.V.P e26.V.P))) ?_
 refine q_st (v:=.bool (!(decide (e9.V = e26.V)))) (fun w hs => (x_move (.tmp rfl (congrArg (fun z => Value.bool (!z)) (GViewID.beq_dec e9.V e26.V))))) ?_
 rcases Bool.eq_false_or_eq_true (decide (e9.V = e26.V)) with hc43 | hc43
 have hp43:e9.V = e26.V:=of_decide_eq_true hc43
 refine q_yes (yl (dj:=28) (b:=false) rfl rfl (congrArg Value.bool (by rw [hc43]; rfl))) ?_
 refine q_st (v:=.slice A_a n_a c_a) (fun w hs => (x_move (.tmp rfl hρ4))) ?_
 refine q_yes (yl (dj:=28) (b:=false) rfl rfl (congrArg Value.bool (by rw [hc43]; rfl))) ?_
 refine q_st (v:=.int .i64 ((i:Nat):Int)) (fun w hs => (x_move (.tmp rfl hρ6))) ?_
 refine q_yes (yl (dj:=28) (b:=false) rfl rfl (congrArg Value.bool (by rw [hc43]; rfl))) ?_
 refine q_st (v:=.pointer (some ⟨b10,(o11 + i * 4),none⟩)) (fun w hs => (ixo26 (.tmp rfl rfl) hA14 (i:=((i:Nat):Int)) (.tmp rfl rfl) (by omega) (by omega) (by omega))) ?_
 refine q_yes (yl (dj:=28) (b:=false) rfl rfl (congrArg Value.bool (by rw [hc43]; rfl))) ?_
 refine q_st (v:=.pointer (some ⟨b10,(o11 + i * 4) + 2,none⟩)) (fun w hs => (fa52_1 (.tmp rfl rfl))) ?_
 refine q_yes (yl (dj:=28) (b:=false) rfl rfl (congrArg Value.bool (by rw [hc43]; rfl))) ?_
 refine q_st (v:=.int .i64 e9.Floor) (fun w hs => (ld3 (.tmp rfl rfl) ((hat16x hs).cell 2 rfl))) ?_
 refine q_yes (yl (dj:=28) (b:=false) rfl rfl (congrArg Value.bool (by rw [hc43]; rfl))) ?_
 refine q_st (v:=.slice A_b n_b c_b) (fun w hs => (x_move (.tmp rfl hρ5))) ?_
 refine q_yes (yl (dj:=28) (b:=false) rfl rfl (congrArg Value.bool (by rw [hc43]; rfl))) ?_
 refine q_st (v:=.int .i64 ((i:Nat):Int)) (fun w hs => (x_move (.tmp rfl hρ6))) ?_
 refine q_yes (yl (dj:=28) (b:=false) rfl rfl (congrArg Value.bool (by rw [hc43]; rfl))) ?_
 refine q_st (v:=.pointer (some ⟨b27,(o28 + i * 4),none⟩)) (fun w hs => (ixo26 (.tmp rfl rfl) hA31 (i:=((i:Nat):Int)) (.tmp rfl rfl) (by omega) (by omega) (by omega))) ?_
 refine q_yes (yl (dj:=28) (b:=false) rfl rfl (congrArg Value.bool (by rw [hc43]; rfl))) ?_
 refine q_st (v:=.pointer (some ⟨b27,(o28 + i * 4) + 2,none⟩)) (fun w hs => (fa52_1 (.tmp rfl rfl))) ?_
 refine q_yes (yl (dj:=28) (b:=false) rfl rfl (congrArg Value.bool (by rw [hc43]; rfl))) ?_
 refine q_st (v:=.int .i64 e26.Floor) (fun w hs => (ld3 (.tmp rfl rfl) ((hat33x hs).cell 2 rfl))) ?_
 refine q_yes (yl (dj:=28) (b:=false) rfl rfl (congrArg Value.bool (by rw [hc43]; rfl))) ?_
 refine q_st (v:=.bool (decide ((e9.Floor:Int) ≠ e26.Floor))) (fun w hs => (x_neq (k:=.i64) (a:=e9.Floor) (b:=e26.Floor) (.tmp rfl rfl) (.tmp rfl rfl))) ?_
 refine q_st (v:=.bool (decide ((e9.Floor:Int) ≠ e26.Floor))) (fun w hs => (x_pick_f (.tmp rfl (congrArg Value.bool (by rw [hc43]; rfl))) (.tmp rfl rfl))) ?_
 refine q_st (v:=.bool (decide ((e9.Floor:Int) ≠ e26.Floor))) (fun w hs => (x_move (.tmp rfl rfl))) ?_
 rcases Bool.eq_false_or_eq_true (decide ((e9.Floor:Int) ≠ e26.Floor)) with hc44 | hc44
 have hp44:(e9.Floor:Int) ≠ e26.Floor:=of_decide_eq_true hc44
 refine q_no (yk 41 true rfl rfl hc44) rfl ?_
 refine q_no (yk 41 true rfl rfl hc44) rfl ?_
 refine q_no (yk 41 true rfl rfl hc44) rfl ?_
 refine q_no (yk 41 true rfl rfl hc44) rfl ?_
 refine q_no (yk 41 true rfl rfl hc44) rfl ?_
 refine q_no (yk 41 true rfl rfl hc44) rfl ?_
 refine q_no (yk 41 true rfl rfl hc44) rfl ?_
 refine q_no (yk 41 true rfl rfl hc44) rfl ?_
 refine q_no (yk 41 true rfl rfl hc44) rfl ?_
 refine q_no (yk 41 true rfl rfl hc44) rfl ?_
 refine q_no (yk 41 true rfl rfl hc44) rfl ?_
 refine q_no (yk 41 true rfl rfl hc44) rfl ?_
 refine q_st (v:=.bool true) (fun w hs => (x_pick_t (.tmp rfl (congrArg Value.bool hc44)) .const)) ?_
 refine q_nil ?_
 intro w hs45
 refine n_then (c_cond_t (t:=true) (.tmp rfl rfl) rfl ?_)
 refine c_seq (c_region (st (v:=.bool false) (x_assign .const) ?_))
 refine c_nil (n_then (c_ret (r_block (r_then (r_then (r_block (r_then (leave_ret (res_one (v:=.bool false) rfl (.mk rfl rfl)) ?_))))))))
 have hans46:decide (a = b) = false:=lists_ne_at hx13 hx30 (state_ne (fun h => absurd h.2.1 (by omega)))
 rw [hans46]
 exact ⟨rfl,hs45⟩
 have hp44:¬ ((e9.Floor:Int) ≠ e26.Floor):=of_decide_eq_false hc44
 refine q_yes (yk 41 false rfl rfl hc44) ?_
 refine q_st (v:=.slice A_a n_a c_a) (fun w hs => (x_move (.tmp rfl hρ4))) ?_
 refine q_yes (yk 41 false rfl rfl hc44) ?_
 refine q_st (v:=.int .i64 ((i:Nat):Int)) (fun w hs => (x_move (.tmp rfl hρ6))) ?_
 refine q_yes (yk 41 false rfl rfl hc44) ?_
 refine q_st (v:=.pointer (some ⟨b10,(o11 + i * 4),none⟩)) (fun w hs => (ixo26 (.tmp rfl rfl) hA14 (i:=((i:Nat):Int)) (.tmp rfl rfl) (by omega) (by omega) (by omega))) ?_
 refine q_yes (yk 41 false rfl rfl hc44) ?_
 refine q_st (v:=.pointer (some ⟨b10,(o11 + i * 4) + 3,none⟩)) (fun w hs => (fa52_2 (.tmp rfl rfl))) ?_
 refine q_yes (yk 41 false rfl rfl hc44) ?_
 refine q_st (v:=.slice A22 n23 c24) (fun w hs => (ld28 (.tmp rfl rfl) ((hat16x hs).cell 3 rfl))) ?_
 refine q_yes (yk 41 false rfl rfl hc44) ?_
 refine q_st (v:=.slice A_b n_b c_b) (fun w hs => (x_move (.tmp rfl hρ5))) ?_
 refine q_yes (yk 41 false rfl rfl hc44) ?_
 refine q_st (v:=.int .i64 ((i:Nat):Int)) (fun w hs => (x_move (.tmp rfl hρ6))) ?_
 refine q_yes (yk 41 false rfl rfl hc44) ?_
 refine q_st (v:=.pointer (some ⟨b27,(o28 + i * 4),none⟩)) (fun w hs => (ixo26 (.tmp rfl rfl) hA31 (i:=((i:Nat):Int)) (.tmp rfl rfl) (by omega) (by omega) (by omega))) ?_
 refine q_yes (yk 41 false rfl rfl hc44) ?_
 refine q_st (v:=.pointer (some ⟨b27,(o28 + i * 4) + 3,none⟩)) (fun w hs => (fa52_2 (.tmp rfl rfl))) ?_
 refine q_yes (yk 41 false rfl rfl hc44) ?_
 refine q_st (v:=.slice A39 n40 c41) (fun w hs => (ld28 (.tmp rfl rfl) ((hat33x hs).cell 3 rfl))) ?_
 refine q_yes (yk 41 false rfl rfl hc44) ?_
 refine q_c (v:=.bool (decide (e9.Items = e26.Items))) cb30 .func (evs2 (.tmp rfl rfl) (.tmp rfl rfl)) (fun w hs => items_spec hs e9.Items hl25 e26.Items hl42 ) ?_
 refine q_yes (yk 41 false rfl rfl hc44) ?_
 refine q_st (v:=.bool (!(decide (e9.Items = e26.Items)))) (fun w hs => (x_not (.tmp rfl rfl))) ?_
 refine q_st (v:=.bool (!(decide (e9.Items = e26.Items)))) (fun w hs => (x_pick_f (.tmp rfl (congrArg Value.bool hc44)) (.tmp rfl rfl))) ?_
 refine q_nil ?_
 intro w hs47
 refine n_then ?_
 rcases Bool.eq_false_or_eq_true (decide (e9.Items = e26.Items)) with hc48 | hc48
 refine c_cond_f (t:=false) (.tmp rfl (congrArg Value.bool (by rw [hc48]; rfl))) rfl ?_
 refine c_skip (n_block (n_then (c_region (st (v:=.int .i64 ((i:Nat):Int)) (x_move (.tmp rfl hρ6)) ?_))))
 refine st (v:=.int .i64 (((i + 1):Nat):Int)) (x_add (k:=.i64) (a:=((i:Nat):Int)) (b:=1) (.tmp rfl rfl) .const ((w64 (by omega) (by omega)).trans (by omega))) ?_
 refine st (v:=.int .i64 (((i + 1):Nat):Int)) (x_assign (.tmp rfl rfl)) ?_
 refine c_nil ?_
 refine n_then ⟨_,_,rfl,?_,(i + 1),hρ4,hρ5,rfl,(by omega),(take_eq_next ht hx13 hx30 (state_eq hp43 (by omega) hc48)),hs47,rfl⟩
 omega
 refine c_cond_t (t:=true) (.tmp rfl (congrArg Value.bool (by rw [hc48]; rfl))) rfl ?_
 refine c_seq (c_region (st (v:=.bool false) (x_assign .const) ?_))
 refine c_nil (n_then (c_ret (r_block (r_then (r_then (r_block (r_then (leave_ret (res_one (v:=.bool false) rfl (.mk rfl rfl)) ?_))))))))
 have hans49:decide (a = b) = false:=lists_ne_at hx13 hx30 (state_ne (fun h => of_decide_eq_false hc48 h.2.2))
 rw [hans49]
 exact ⟨rfl,hs47⟩
 have hp43:¬ (e9.V = e26.V):=of_decide_eq_false hc43
 refine q_no (yl (dj:=28) (b:=true) rfl rfl (congrArg Value.bool (by rw [hc43]; rfl))) rfl ?_
 refine q_no (yl (dj:=28) (b:=true) rfl rfl (congrArg Value.bool (by rw [hc43]; rfl))) rfl ?_
 refine q_no (yl (dj:=28) (b:=true) rfl rfl (congrArg Value.bool (by rw [hc43]; rfl))) rfl ?_
 refine q_no (yl (dj:=28) (b:=true) rfl rfl (congrArg Value.bool (by rw [hc43]; rfl))) rfl ?_
 refine q_no (yl (dj:=28) (b:=true) rfl rfl (congrArg Value.bool (by rw [hc43]; rfl))) rfl ?_
 refine q_no (yl (dj:=28) (b:=true) rfl rfl (congrArg Value.bool (by rw [hc43]; rfl))) rfl ?_
 refine q_no (yl (dj:=28) (b:=true) rfl rfl (congrArg Value.bool (by rw [hc43]; rfl))) rfl ?_
 refine q_no (yl (dj:=28) (b:=true) rfl rfl (congrArg Value.bool (by rw [hc43]; rfl))) rfl ?_
 refine q_no (yl (dj:=28) (b:=true) rfl rfl (congrArg Value.bool (by rw [hc43]; rfl))) rfl ?_
 refine q_no (yl (dj:=28) (b:=true) rfl rfl (congrArg Value.bool (by rw [hc43]; rfl))) rfl ?_
 refine q_no (yl (dj:=28) (b:=true) rfl rfl (congrArg Value.bool (by rw [hc43]; rfl))) rfl ?_
 refine q_st (v:=.bool true) (fun w hs => (x_pick_t (.tmp rfl (congrArg Value.bool (by rw [hc43]; rfl))) .const)) ?_
 refine q_st (v:=.bool true) (fun w hs => (x_move (.tmp rfl rfl))) ?_
 refine q_no (yl (dj:=41) (b:=true) rfl rfl rfl) rfl ?_
 refine q_no (yl (dj:=41) (b:=true) rfl rfl rfl) rfl ?_
 refine q_no (yl (dj:=41) (b:=true) rfl rfl rfl) rfl ?_
 refine q_no (yl (dj:=41) (b:=true) rfl rfl rfl) rfl ?_
 refine q_no (yl (dj:=41) (b:=true) rfl rfl rfl) rfl ?_
 refine q_no (yl (dj:=41) (b:=true) rfl rfl rfl) rfl ?_
 refine q_no (yl (dj:=41) (b:=true) rfl rfl rfl) rfl ?_
 refine q_no (yl (dj:=41) (b:=true) rfl rfl rfl) rfl ?_
 refine q_no (yl (dj:=41) (b:=true) rfl rfl rfl) rfl ?_
 refine q_no (yl (dj:=41) (b:=true) rfl rfl rfl) rfl ?_
 refine q_no (yl (dj:=41) (b:=true) rfl rfl rfl) rfl ?_
 refine q_no (yl (dj:=41) (b:=true) rfl rfl rfl) rfl ?_
 refine q_st (v:=.bool true) (fun w hs => (x_pick_t (.tmp rfl rfl) .const)) ?_
 refine q_nil ?_
 intro w hs50
 refine n_then (c_cond_t (t:=true) (.tmp rfl rfl) rfl ?_)
 refine c_seq (c_region (st (v:=.bool false) (x_assign .const) ?_))
 refine c_nil (n_then (c_ret (r_block (r_then (r_then (r_block (r_then (leave_ret (res_one (v:=.bool false) rfl (.mk rfl rfl)) ?_))))))))
 have hans51:decide (a = b) = false:=lists_ne_at hx13 hx30 (state_ne (fun h => hp43 h.1))
 rw [hans51]
 exact ⟨rfl,hs50⟩
 have hp8:¬ ((((i:Nat):Int):Int) < ((n_a:Nat):Int)):=of_decide_eq_false hc8
 refine c_cond_f (t:=false) (.tmp rfl (congrArg Value.bool hc8)) rfl ?_
 refine c_exit (x_then (x_then (x_here (n_then (c_seq (c_region (st (v:=.bool true) (x_assign .const) ?_)))))))
 refine c_nil (n_then (c_ret (leave_ret (res_one (v:=.bool true) rfl (.mk rfl rfl)) ?_)))
 have hans52:decide (a = b) = true:=lists_eq ht (by omega) (by omega)
 rw [hans52]
 exact ⟨rfl,hs7⟩
end Go.Proofs.Ytlfihfmmhhcigaa
