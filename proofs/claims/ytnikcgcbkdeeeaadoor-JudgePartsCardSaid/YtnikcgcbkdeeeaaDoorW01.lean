/- Steps of the proofs over the functions of this seat, printed by a program (gen.py) and checked by Lean. -/
import Derived.Test.YtnikcgcbkdeeeaaDoorW00
import Derived.Test.YtnikcgcbkdeeeaaDoorProg
import Derived.Test.YtnikcgcbkdeeeaaDoorRows
set_option linter.unusedVariables false
set_option linter.unusedSimpArgs false
namespace Go.FM
open Go
structure GSend where
  I:Nat
  M:(List Nat)
def kSend:Kd GSend where
  sz:=2
  pos:=by decide
  rep H x cs:=∃ (A1:Option Addr) (n2 c3:Nat),cs = [.int .u8 (x.I:Int),.slice A1 n2 c3]∧x.I < 256∧By H A1 n2 c3 x.M
  len h:=by obtain ⟨A1,n2,c3,rfl,_⟩:=h; rfl
  one h:=by obtain ⟨A1,n2,c3,rfl,_⟩:=h; simp [Value.oneCell']
  mono hl h:=by obtain ⟨A1,n2,c3,rfl,h0,h1⟩:=h; exact ⟨A1,n2,c3,rfl,h0,h1.mono hl⟩
  bts:=32
  bts0:=by decide
instance:DecidableEq GSend:=fun a b => decidable_of_iff (a.I = b.I∧a.M = b.M) ⟨fun h => by cases a; cases b; simp_all,fun h => by rw [h]; simp⟩
instance:Inhabited GSend:=⟨(GSend.mk 0 [])⟩
structure GRun where
  Set:Nat
  Sends:(List GSend)
  Had:(List Nat)
  Safe:(List Nat)
def kRun:Kd GRun where
  sz:=4
  pos:=by decide
  rep H x cs:=∃ (A1:Option Addr) (n2 c3:Nat),∃ (A4:Option Addr) (n5 c6:Nat),∃ (A7:Option Addr) (n8 c9:Nat),cs = [.int .u16 (x.Set:Int),.slice A1 n2 c3,.slice A4 n5 c6,.slice A7 n8 c9]∧x.Set < 65536∧Sl kSend H A1 n2 c3 x.Sends∧By H A4 n5 c6 x.Had∧By H A7 n8 c9 x.Safe
  len h:=by obtain ⟨A1,n2,c3,A4,n5,c6,A7,n8,c9,rfl,_⟩:=h; rfl
  one h:=by obtain ⟨A1,n2,c3,A4,n5,c6,A7,n8,c9,rfl,_⟩:=h; simp [Value.oneCell']
  mono hl h:=by obtain ⟨A1,n2,c3,A4,n5,c6,A7,n8,c9,rfl,h0,h1,h2,h3⟩:=h; exact ⟨A1,n2,c3,A4,n5,c6,A7,n8,c9,rfl,h0,h1.mono hl,h2.mono hl,h3.mono hl⟩
  bts:=80
  bts0:=by decide
instance:DecidableEq GRun:=fun a b => decidable_of_iff (a.Set = b.Set∧a.Sends = b.Sends∧a.Had = b.Had∧a.Safe = b.Safe) ⟨fun h => by cases a; cases b; simp_all,fun h => by rw [h]; simp⟩
instance:Inhabited GRun:=⟨(GRun.mk 0 [] [] [])⟩
end Go.FM

set_option linter.unusedVariables false
set_option linter.unusedSimpArgs false
namespace Go.Proofs.YtnikcgcbkdeeeaaDoor
open Go Go.FM Go.Proofs
set_option maxRecDepth 100000
theorem mixed:Tryd.prog.follows .mixedOrders = true:=by kernel_rfl
theorem inf3:Inf Tryd.prog 3 (.int .i64 0) 1 8:=Inf.mk (by kernel_rfl)
theorem inf5:Inf Tryd.prog 5 (.int .u8 0) 1 1:=Inf.mk (by kernel_rfl)
theorem inf25:Inf Tryd.prog 25 (.slice none 0 0) 1 24:=Inf.mk (by kernel_rfl)
theorem inf30:Inf Tryd.prog 30 (.slice none 0 0) 1 24:=Inf.mk (by kernel_rfl)
theorem inf32:Inf Tryd.prog 32 (.slice none 0 0) 1 24:=Inf.mk (by kernel_rfl)
theorem inf34:Inf Tryd.prog 34 (.agg #[.int .i64 0,.slice none 0 0]) 2 32:=Inf.mk (by kernel_rfl)
theorem inf41:Inf Tryd.prog 41 (.slice none 0 0) 1 24:=Inf.mk (by kernel_rfl)
theorem inf42:Inf Tryd.prog 42 (.int .u64 0) 1 8:=Inf.mk (by kernel_rfl)
theorem inf44:Inf Tryd.prog 44 (.agg #[.int .u64 0,.int .i64 0]) 2 16:=Inf.mk (by kernel_rfl)
theorem inf45:Inf Tryd.prog 45 (.int .u16 0) 1 2:=Inf.mk (by kernel_rfl)
theorem inf47:Inf Tryd.prog 47 (.agg #[.int .u64 0,.int .i64 0,.int .u16 0]) 3 24:=Inf.mk (by kernel_rfl)
theorem inf49:Inf Tryd.prog 49 (.agg #[.int .u8 0,.int .u64 0,.int .i64 0,.int .u16 0,.int .i64 0,.slice none 0 0]) 6 64:=Inf.mk (by kernel_rfl)
theorem inf62:Inf Tryd.prog 62 (.agg #[.int .i64 0,.int .u64 0,.int .i64 0,.int .u16 0,.slice none 0 0,.slice none 0 0,.int .i64 0,.int .u64 0,.int .i64 0]) 9 104:=Inf.mk (by kernel_rfl)
theorem inf65:Inf Tryd.prog 65 (.slice none 0 0) 1 24:=Inf.mk (by kernel_rfl)
theorem inf67:Inf Tryd.prog 67 (.agg #[.int .u16 0,.slice none 0 0,.slice none 0 0,.slice none 0 0]) 4 80:=Inf.mk (by kernel_rfl)
theorem inf69:Inf Tryd.prog 69 (.agg #[.int .u8 0,.slice none 0 0]) 2 32:=Inf.mk (by kernel_rfl)
theorem inf73:Inf Tryd.prog 73 (.agg #[.int .i64 0,.int .i64 0,.int .i64 0,.int .i64 0,.int .i64 0,.int .i64 0,.int .i64 0,.int .i64 0,.int .i64 0,.int .i64 0,.int .i64 0,.int .i64 0,.int .i64 0,.int .i64 0,.int .i64 0,.int .i64 0]) 16 128:=Inf.mk (by kernel_rfl)
theorem sc3:scalarT Tryd.prog 3 = true:=by kernel_rfl
theorem ld3 {N:Nat} {ρ:Nat → Value} {w:World} {ty:Nat} {x:Operand} {ad:Addr} {v:Value} (hx:Ev N ρ x (.pointer (some ad))) (hc:w.cell? ad = some v):Ex Tryd.prog N ρ w (.load 3 x) ty v w:=x_load sc3 hx hc
theorem sto3 {N:Nat} {ρ:Nat → Value} {H:Hp} {w:World} {L:List Res} {g T ty i:Nat} {x y:Operand} {cs cs':List Value} {v:Value} (h:St H w (obj g T cs::L)) (hx:Ev N ρ x (.pointer (some ⟨g,i,none⟩))) (hy:Ev N ρ y v) (hsz:v.cells.size = 1) (hl:i + 1 ≤ cs.length) (h1:∀ u ∈ v.cells.toList,u.oneCell' = true) (hsp:splice cs i v.cells.toList = cs'):∃ w',Ex0 Tryd.prog N ρ w (.store 3 x y) ty w'∧St H w' (obj g T cs'::L):=by
  obtain ⟨i0,e1,_,e3,_⟩:=inf3
  exact m_store e1 h hx hy (by rw [e3]; exact hsz) (by rw [e3]; exact hl) h1 hsp
theorem stor3 {N:Nat} {ρ:Nat → Value} {H:Hp} {w:World} {L:List Res} {g e size n cap ty i:Nat} {x y:Operand} {xs xs':List Value} {v u:Value} (h:St H w (row e size v n xs::L)) (hv:v = .slice (some ⟨g,0,none⟩) n cap) (hx:Ev N ρ x (.pointer (some ⟨g,i,none⟩))) (hy:Ev N ρ y u) (hsz:u.cells.size = 1) (hl:i + 1 ≤ xs.length) (h1:∀ u' ∈ u.cells.toList,u'.oneCell' = true) (hsp:splice xs i u.cells.toList = xs'):∃ w',Ex0 Tryd.prog N ρ w (.store 3 x y) ty w'∧St H w' (row e size v n xs'::L):=by
  obtain ⟨i0,e1,_,e3,_⟩:=inf3
  exact m_storeRow e1 h hv hx hy (by rw [e3]; exact hsz) (by rw [e3]; exact hl) h1 hsp
theorem al3 {N:Nat} {ρ:Nat → Value} {H:Hp} {w:World} {L:List Res} {ty:Nat} {cs:List Value} (h:St H w L) (hv:(.int .i64 0:Value).cells = cs.toArray):∃ v' w',Ex Tryd.prog N ρ w (.alloc 3) ty v' w'∧∃ g,v' = .pointer (some ⟨g,0,none⟩)∧St H w' (obj g 3 cs::L):=by
  obtain ⟨i0,e1,e2,_,_⟩:=inf3
  exact m_alloc e1 e2 h hv
theorem sc5:scalarT Tryd.prog 5 = true:=by kernel_rfl
theorem ld5 {N:Nat} {ρ:Nat → Value} {w:World} {ty:Nat} {x:Operand} {ad:Addr} {v:Value} (hx:Ev N ρ x (.pointer (some ad))) (hc:w.cell? ad = some v):Ex Tryd.prog N ρ w (.load 5 x) ty v w:=x_load sc5 hx hc
theorem sto5 {N:Nat} {ρ:Nat → Value} {H:Hp} {w:World} {L:List Res} {g T ty i:Nat} {x y:Operand} {cs cs':List Value} {v:Value} (h:St H w (obj g T cs::L)) (hx:Ev N ρ x (.pointer (some ⟨g,i,none⟩))) (hy:Ev N ρ y v) (hsz:v.cells.size = 1) (hl:i + 1 ≤ cs.length) (h1:∀ u ∈ v.cells.toList,u.oneCell' = true) (hsp:splice cs i v.cells.toList = cs'):∃ w',Ex0 Tryd.prog N ρ w (.store 5 x y) ty w'∧St H w' (obj g T cs'::L):=by
  obtain ⟨i0,e1,_,e3,_⟩:=inf5
  exact m_store e1 h hx hy (by rw [e3]; exact hsz) (by rw [e3]; exact hl) h1 hsp
theorem sc25:scalarT Tryd.prog 25 = true:=by kernel_rfl
theorem ld25 {N:Nat} {ρ:Nat → Value} {w:World} {ty:Nat} {x:Operand} {ad:Addr} {v:Value} (hx:Ev N ρ x (.pointer (some ad))) (hc:w.cell? ad = some v):Ex Tryd.prog N ρ w (.load 25 x) ty v w:=x_load sc25 hx hc
theorem stor25 {N:Nat} {ρ:Nat → Value} {H:Hp} {w:World} {L:List Res} {g e size n cap ty i:Nat} {x y:Operand} {xs xs':List Value} {v u:Value} (h:St H w (row e size v n xs::L)) (hv:v = .slice (some ⟨g,0,none⟩) n cap) (hx:Ev N ρ x (.pointer (some ⟨g,i,none⟩))) (hy:Ev N ρ y u) (hsz:u.cells.size = 1) (hl:i + 1 ≤ xs.length) (h1:∀ u' ∈ u.cells.toList,u'.oneCell' = true) (hsp:splice xs i u.cells.toList = xs'):∃ w',Ex0 Tryd.prog N ρ w (.store 25 x y) ty w'∧St H w' (row e size v n xs'::L):=by
  obtain ⟨i0,e1,_,e3,_⟩:=inf25
  exact m_storeRow e1 h hv hx hy (by rw [e3]; exact hsz) (by rw [e3]; exact hl) h1 hsp
theorem sc30:scalarT Tryd.prog 30 = true:=by kernel_rfl
theorem ld30 {N:Nat} {ρ:Nat → Value} {w:World} {ty:Nat} {x:Operand} {ad:Addr} {v:Value} (hx:Ev N ρ x (.pointer (some ad))) (hc:w.cell? ad = some v):Ex Tryd.prog N ρ w (.load 30 x) ty v w:=x_load sc30 hx hc
theorem sc32:scalarT Tryd.prog 32 = true:=by kernel_rfl
theorem ld32 {N:Nat} {ρ:Nat → Value} {w:World} {ty:Nat} {x:Operand} {ad:Addr} {v:Value} (hx:Ev N ρ x (.pointer (some ad))) (hc:w.cell? ad = some v):Ex Tryd.prog N ρ w (.load 32 x) ty v w:=x_load sc32 hx hc
theorem ag34:aggT Tryd.prog 34 = true:=by kernel_rfl
theorem ld34 {N:Nat} {ρ:Nat → Value} {w:World} {ty:Nat} {x:Operand} {ad:Addr} {cs:List Value} (hx:Ev N ρ x (.pointer (some ad))) (hc:At w ad cs) (hl:cs.length = 2):Ex Tryd.prog N ρ w (.load 34 x) ty (.agg cs.toArray) w:=by
  obtain ⟨i0,h1,_,h3,_⟩:=inf34
  exact x_loadA ag34 h1 hx hc (by rw [h3]; exact hl)
theorem sto34 {N:Nat} {ρ:Nat → Value} {H:Hp} {w:World} {L:List Res} {g T ty i:Nat} {x y:Operand} {cs cs':List Value} {v:Value} (h:St H w (obj g T cs::L)) (hx:Ev N ρ x (.pointer (some ⟨g,i,none⟩))) (hy:Ev N ρ y v) (hsz:v.cells.size = 2) (hl:i + 2 ≤ cs.length) (h1:∀ u ∈ v.cells.toList,u.oneCell' = true) (hsp:splice cs i v.cells.toList = cs'):∃ w',Ex0 Tryd.prog N ρ w (.store 34 x y) ty w'∧St H w' (obj g T cs'::L):=by
  obtain ⟨i0,e1,_,e3,_⟩:=inf34
  exact m_store e1 h hx hy (by rw [e3]; exact hsz) (by rw [e3]; exact hl) h1 hsp
theorem al34 {N:Nat} {ρ:Nat → Value} {H:Hp} {w:World} {L:List Res} {ty:Nat} {cs:List Value} (h:St H w L) (hv:(.agg #[.int .i64 0,.slice none 0 0]:Value).cells = cs.toArray):∃ v' w',Ex Tryd.prog N ρ w (.alloc 34) ty v' w'∧∃ g,v' = .pointer (some ⟨g,0,none⟩)∧St H w' (obj g 34 cs::L):=by
  obtain ⟨i0,e1,e2,_,_⟩:=inf34
  exact m_alloc e1 e2 h hv
theorem sc41:scalarT Tryd.prog 41 = true:=by kernel_rfl
theorem ld41 {N:Nat} {ρ:Nat → Value} {w:World} {ty:Nat} {x:Operand} {ad:Addr} {v:Value} (hx:Ev N ρ x (.pointer (some ad))) (hc:w.cell? ad = some v):Ex Tryd.prog N ρ w (.load 41 x) ty v w:=x_load sc41 hx hc
theorem stor41 {N:Nat} {ρ:Nat → Value} {H:Hp} {w:World} {L:List Res} {g e size n cap ty i:Nat} {x y:Operand} {xs xs':List Value} {v u:Value} (h:St H w (row e size v n xs::L)) (hv:v = .slice (some ⟨g,0,none⟩) n cap) (hx:Ev N ρ x (.pointer (some ⟨g,i,none⟩))) (hy:Ev N ρ y u) (hsz:u.cells.size = 1) (hl:i + 1 ≤ xs.length) (h1:∀ u' ∈ u.cells.toList,u'.oneCell' = true) (hsp:splice xs i u.cells.toList = xs'):∃ w',Ex0 Tryd.prog N ρ w (.store 41 x y) ty w'∧St H w' (row e size v n xs'::L):=by
  obtain ⟨i0,e1,_,e3,_⟩:=inf41
  exact m_storeRow e1 h hv hx hy (by rw [e3]; exact hsz) (by rw [e3]; exact hl) h1 hsp
theorem sc42:scalarT Tryd.prog 42 = true:=by kernel_rfl
theorem ld42 {N:Nat} {ρ:Nat → Value} {w:World} {ty:Nat} {x:Operand} {ad:Addr} {v:Value} (hx:Ev N ρ x (.pointer (some ad))) (hc:w.cell? ad = some v):Ex Tryd.prog N ρ w (.load 42 x) ty v w:=x_load sc42 hx hc
theorem ag44:aggT Tryd.prog 44 = true:=by kernel_rfl
theorem ld44 {N:Nat} {ρ:Nat → Value} {w:World} {ty:Nat} {x:Operand} {ad:Addr} {cs:List Value} (hx:Ev N ρ x (.pointer (some ad))) (hc:At w ad cs) (hl:cs.length = 2):Ex Tryd.prog N ρ w (.load 44 x) ty (.agg cs.toArray) w:=by
  obtain ⟨i0,h1,_,h3,_⟩:=inf44
  exact x_loadA ag44 h1 hx hc (by rw [h3]; exact hl)
theorem stor44 {N:Nat} {ρ:Nat → Value} {H:Hp} {w:World} {L:List Res} {g e size n cap ty i:Nat} {x y:Operand} {xs xs':List Value} {v u:Value} (h:St H w (row e size v n xs::L)) (hv:v = .slice (some ⟨g,0,none⟩) n cap) (hx:Ev N ρ x (.pointer (some ⟨g,i,none⟩))) (hy:Ev N ρ y u) (hsz:u.cells.size = 2) (hl:i + 2 ≤ xs.length) (h1:∀ u' ∈ u.cells.toList,u'.oneCell' = true) (hsp:splice xs i u.cells.toList = xs'):∃ w',Ex0 Tryd.prog N ρ w (.store 44 x y) ty w'∧St H w' (row e size v n xs'::L):=by
  obtain ⟨i0,e1,_,e3,_⟩:=inf44
  exact m_storeRow e1 h hv hx hy (by rw [e3]; exact hsz) (by rw [e3]; exact hl) h1 hsp
theorem sc45:scalarT Tryd.prog 45 = true:=by kernel_rfl
theorem ld45 {N:Nat} {ρ:Nat → Value} {w:World} {ty:Nat} {x:Operand} {ad:Addr} {v:Value} (hx:Ev N ρ x (.pointer (some ad))) (hc:w.cell? ad = some v):Ex Tryd.prog N ρ w (.load 45 x) ty v w:=x_load sc45 hx hc
theorem ag47:aggT Tryd.prog 47 = true:=by kernel_rfl
theorem ld47 {N:Nat} {ρ:Nat → Value} {w:World} {ty:Nat} {x:Operand} {ad:Addr} {cs:List Value} (hx:Ev N ρ x (.pointer (some ad))) (hc:At w ad cs) (hl:cs.length = 3):Ex Tryd.prog N ρ w (.load 47 x) ty (.agg cs.toArray) w:=by
  obtain ⟨i0,h1,_,h3,_⟩:=inf47
  exact x_loadA ag47 h1 hx hc (by rw [h3]; exact hl)
theorem sto47 {N:Nat} {ρ:Nat → Value} {H:Hp} {w:World} {L:List Res} {g T ty i:Nat} {x y:Operand} {cs cs':List Value} {v:Value} (h:St H w (obj g T cs::L)) (hx:Ev N ρ x (.pointer (some ⟨g,i,none⟩))) (hy:Ev N ρ y v) (hsz:v.cells.size = 3) (hl:i + 3 ≤ cs.length) (h1:∀ u ∈ v.cells.toList,u.oneCell' = true) (hsp:splice cs i v.cells.toList = cs'):∃ w',Ex0 Tryd.prog N ρ w (.store 47 x y) ty w'∧St H w' (obj g T cs'::L):=by
  obtain ⟨i0,e1,_,e3,_⟩:=inf47
  exact m_store e1 h hx hy (by rw [e3]; exact hsz) (by rw [e3]; exact hl) h1 hsp
theorem al47 {N:Nat} {ρ:Nat → Value} {H:Hp} {w:World} {L:List Res} {ty:Nat} {cs:List Value} (h:St H w L) (hv:(.agg #[.int .u64 0,.int .i64 0,.int .u16 0]:Value).cells = cs.toArray):∃ v' w',Ex Tryd.prog N ρ w (.alloc 47) ty v' w'∧∃ g,v' = .pointer (some ⟨g,0,none⟩)∧St H w' (obj g 47 cs::L):=by
  obtain ⟨i0,e1,e2,_,_⟩:=inf47
  exact m_alloc e1 e2 h hv
theorem ag49:aggT Tryd.prog 49 = true:=by kernel_rfl
theorem ld49 {N:Nat} {ρ:Nat → Value} {w:World} {ty:Nat} {x:Operand} {ad:Addr} {cs:List Value} (hx:Ev N ρ x (.pointer (some ad))) (hc:At w ad cs) (hl:cs.length = 6):Ex Tryd.prog N ρ w (.load 49 x) ty (.agg cs.toArray) w:=by
  obtain ⟨i0,h1,_,h3,_⟩:=inf49
  exact x_loadA ag49 h1 hx hc (by rw [h3]; exact hl)
theorem sto49 {N:Nat} {ρ:Nat → Value} {H:Hp} {w:World} {L:List Res} {g T ty i:Nat} {x y:Operand} {cs cs':List Value} {v:Value} (h:St H w (obj g T cs::L)) (hx:Ev N ρ x (.pointer (some ⟨g,i,none⟩))) (hy:Ev N ρ y v) (hsz:v.cells.size = 6) (hl:i + 6 ≤ cs.length) (h1:∀ u ∈ v.cells.toList,u.oneCell' = true) (hsp:splice cs i v.cells.toList = cs'):∃ w',Ex0 Tryd.prog N ρ w (.store 49 x y) ty w'∧St H w' (obj g T cs'::L):=by
  obtain ⟨i0,e1,_,e3,_⟩:=inf49
  exact m_store e1 h hx hy (by rw [e3]; exact hsz) (by rw [e3]; exact hl) h1 hsp
theorem al49 {N:Nat} {ρ:Nat → Value} {H:Hp} {w:World} {L:List Res} {ty:Nat} {cs:List Value} (h:St H w L) (hv:(.agg #[.int .u8 0,.int .u64 0,.int .i64 0,.int .u16 0,.int .i64 0,.slice none 0 0]:Value).cells = cs.toArray):∃ v' w',Ex Tryd.prog N ρ w (.alloc 49) ty v' w'∧∃ g,v' = .pointer (some ⟨g,0,none⟩)∧St H w' (obj g 49 cs::L):=by
  obtain ⟨i0,e1,e2,_,_⟩:=inf49
  exact m_alloc e1 e2 h hv
theorem ag62:aggT Tryd.prog 62 = true:=by kernel_rfl
theorem ld62 {N:Nat} {ρ:Nat → Value} {w:World} {ty:Nat} {x:Operand} {ad:Addr} {cs:List Value} (hx:Ev N ρ x (.pointer (some ad))) (hc:At w ad cs) (hl:cs.length = 9):Ex Tryd.prog N ρ w (.load 62 x) ty (.agg cs.toArray) w:=by
  obtain ⟨i0,h1,_,h3,_⟩:=inf62
  exact x_loadA ag62 h1 hx hc (by rw [h3]; exact hl)
theorem sto62 {N:Nat} {ρ:Nat → Value} {H:Hp} {w:World} {L:List Res} {g T ty i:Nat} {x y:Operand} {cs cs':List Value} {v:Value} (h:St H w (obj g T cs::L)) (hx:Ev N ρ x (.pointer (some ⟨g,i,none⟩))) (hy:Ev N ρ y v) (hsz:v.cells.size = 9) (hl:i + 9 ≤ cs.length) (h1:∀ u ∈ v.cells.toList,u.oneCell' = true) (hsp:splice cs i v.cells.toList = cs'):∃ w',Ex0 Tryd.prog N ρ w (.store 62 x y) ty w'∧St H w' (obj g T cs'::L):=by
  obtain ⟨i0,e1,_,e3,_⟩:=inf62
  exact m_store e1 h hx hy (by rw [e3]; exact hsz) (by rw [e3]; exact hl) h1 hsp
theorem al62 {N:Nat} {ρ:Nat → Value} {H:Hp} {w:World} {L:List Res} {ty:Nat} {cs:List Value} (h:St H w L) (hv:(.agg #[.int .i64 0,.int .u64 0,.int .i64 0,.int .u16 0,.slice none 0 0,.slice none 0 0,.int .i64 0,.int .u64 0,.int .i64 0]:Value).cells = cs.toArray):∃ v' w',Ex Tryd.prog N ρ w (.alloc 62) ty v' w'∧∃ g,v' = .pointer (some ⟨g,0,none⟩)∧St H w' (obj g 62 cs::L):=by
  obtain ⟨i0,e1,e2,_,_⟩:=inf62
  exact m_alloc e1 e2 h hv
theorem sc65:scalarT Tryd.prog 65 = true:=by kernel_rfl
theorem ld65 {N:Nat} {ρ:Nat → Value} {w:World} {ty:Nat} {x:Operand} {ad:Addr} {v:Value} (hx:Ev N ρ x (.pointer (some ad))) (hc:w.cell? ad = some v):Ex Tryd.prog N ρ w (.load 65 x) ty v w:=x_load sc65 hx hc
theorem ag69:aggT Tryd.prog 69 = true:=by kernel_rfl
theorem ld69 {N:Nat} {ρ:Nat → Value} {w:World} {ty:Nat} {x:Operand} {ad:Addr} {cs:List Value} (hx:Ev N ρ x (.pointer (some ad))) (hc:At w ad cs) (hl:cs.length = 2):Ex Tryd.prog N ρ w (.load 69 x) ty (.agg cs.toArray) w:=by
  obtain ⟨i0,h1,_,h3,_⟩:=inf69
  exact x_loadA ag69 h1 hx hc (by rw [h3]; exact hl)
theorem sto69 {N:Nat} {ρ:Nat → Value} {H:Hp} {w:World} {L:List Res} {g T ty i:Nat} {x y:Operand} {cs cs':List Value} {v:Value} (h:St H w (obj g T cs::L)) (hx:Ev N ρ x (.pointer (some ⟨g,i,none⟩))) (hy:Ev N ρ y v) (hsz:v.cells.size = 2) (hl:i + 2 ≤ cs.length) (h1:∀ u ∈ v.cells.toList,u.oneCell' = true) (hsp:splice cs i v.cells.toList = cs'):∃ w',Ex0 Tryd.prog N ρ w (.store 69 x y) ty w'∧St H w' (obj g T cs'::L):=by
  obtain ⟨i0,e1,_,e3,_⟩:=inf69
  exact m_store e1 h hx hy (by rw [e3]; exact hsz) (by rw [e3]; exact hl) h1 hsp
theorem al69 {N:Nat} {ρ:Nat → Value} {H:Hp} {w:World} {L:List Res} {ty:Nat} {cs:List Value} (h:St H w L) (hv:(.agg #[.int .u8 0,.slice none 0 0]:Value).cells = cs.toArray):∃ v' w',Ex Tryd.prog N ρ w (.alloc 69) ty v' w'∧∃ g,v' = .pointer (some ⟨g,0,none⟩)∧St H w' (obj g 69 cs::L):=by
  obtain ⟨i0,e1,e2,_,_⟩:=inf69
  exact m_alloc e1 e2 h hv
theorem al73 {N:Nat} {ρ:Nat → Value} {H:Hp} {w:World} {L:List Res} {ty:Nat} {cs:List Value} (h:St H w L) (hv:(.agg #[.int .i64 0,.int .i64 0,.int .i64 0,.int .i64 0,.int .i64 0,.int .i64 0,.int .i64 0,.int .i64 0,.int .i64 0,.int .i64 0,.int .i64 0,.int .i64 0,.int .i64 0,.int .i64 0,.int .i64 0,.int .i64 0]:Value).cells = cs.toArray):∃ v' w',Ex Tryd.prog N ρ w (.alloc 73) ty v' w'∧∃ g,v' = .pointer (some ⟨g,0,none⟩)∧St H w' (obj g 73 cs::L):=by
  obtain ⟨i0,e1,e2,_,_⟩:=inf73
  exact m_alloc e1 e2 h hv
theorem fa34_0 {N:Nat} {ρ:Nat → Value} {w:World} {ty b o:Nat} {x:Operand} (hx:Ev N ρ x (.pointer (some ⟨b,o,none⟩))):Ex Tryd.prog N ρ w (.fieldAddr 34 x 0) ty (.pointer (some ⟨b,o + 0,none⟩)) w:=by
  obtain ⟨i0,h1,_,h3,_⟩:=inf3
  have:=x_fieldAddr (ty:=ty) (w:=w) Tryd.underlying34 (f:=0) rfl h1 (by rw [h3]; decide) hx
  rwa [add_none] at this
theorem fa34_1 {N:Nat} {ρ:Nat → Value} {w:World} {ty b o:Nat} {x:Operand} (hx:Ev N ρ x (.pointer (some ⟨b,o,none⟩))):Ex Tryd.prog N ρ w (.fieldAddr 34 x 1) ty (.pointer (some ⟨b,o + 1,none⟩)) w:=by
  obtain ⟨i0,h1,_,h3,_⟩:=inf30
  have:=x_fieldAddr (ty:=ty) (w:=w) Tryd.underlying34 (f:=1) rfl h1 (by rw [h3]; decide) hx
  rwa [add_none] at this
theorem fa44_0 {N:Nat} {ρ:Nat → Value} {w:World} {ty b o:Nat} {x:Operand} (hx:Ev N ρ x (.pointer (some ⟨b,o,none⟩))):Ex Tryd.prog N ρ w (.fieldAddr 44 x 0) ty (.pointer (some ⟨b,o + 0,none⟩)) w:=by
  obtain ⟨i0,h1,_,h3,_⟩:=inf42
  have:=x_fieldAddr (ty:=ty) (w:=w) Tryd.underlying44 (f:=0) rfl h1 (by rw [h3]; decide) hx
  rwa [add_none] at this
theorem fa44_1 {N:Nat} {ρ:Nat → Value} {w:World} {ty b o:Nat} {x:Operand} (hx:Ev N ρ x (.pointer (some ⟨b,o,none⟩))):Ex Tryd.prog N ρ w (.fieldAddr 44 x 1) ty (.pointer (some ⟨b,o + 1,none⟩)) w:=by
  obtain ⟨i0,h1,_,h3,_⟩:=inf3
  have:=x_fieldAddr (ty:=ty) (w:=w) Tryd.underlying44 (f:=1) rfl h1 (by rw [h3]; decide) hx
  rwa [add_none] at this
theorem fa47_0 {N:Nat} {ρ:Nat → Value} {w:World} {ty b o:Nat} {x:Operand} (hx:Ev N ρ x (.pointer (some ⟨b,o,none⟩))):Ex Tryd.prog N ρ w (.fieldAddr 47 x 0) ty (.pointer (some ⟨b,o + 0,none⟩)) w:=by
  obtain ⟨i0,h1,_,h3,_⟩:=inf44
  have:=x_fieldAddr (ty:=ty) (w:=w) Tryd.underlying47 (f:=0) rfl h1 (by rw [h3]; decide) hx
  rwa [add_none] at this
theorem fa47_1 {N:Nat} {ρ:Nat → Value} {w:World} {ty b o:Nat} {x:Operand} (hx:Ev N ρ x (.pointer (some ⟨b,o,none⟩))):Ex Tryd.prog N ρ w (.fieldAddr 47 x 1) ty (.pointer (some ⟨b,o + 2,none⟩)) w:=by
  obtain ⟨i0,h1,_,h3,_⟩:=inf45
  have:=x_fieldAddr (ty:=ty) (w:=w) Tryd.underlying47 (f:=1) rfl h1 (by rw [h3]; decide) hx
  rwa [add_none] at this
theorem fa49_0 {N:Nat} {ρ:Nat → Value} {w:World} {ty b o:Nat} {x:Operand} (hx:Ev N ρ x (.pointer (some ⟨b,o,none⟩))):Ex Tryd.prog N ρ w (.fieldAddr 49 x 0) ty (.pointer (some ⟨b,o + 0,none⟩)) w:=by
  obtain ⟨i0,h1,_,h3,_⟩:=inf5
  have:=x_fieldAddr (ty:=ty) (w:=w) Tryd.underlying49 (f:=0) rfl h1 (by rw [h3]; decide) hx
  rwa [add_none] at this
theorem fa49_1 {N:Nat} {ρ:Nat → Value} {w:World} {ty b o:Nat} {x:Operand} (hx:Ev N ρ x (.pointer (some ⟨b,o,none⟩))):Ex Tryd.prog N ρ w (.fieldAddr 49 x 1) ty (.pointer (some ⟨b,o + 1,none⟩)) w:=by
  obtain ⟨i0,h1,_,h3,_⟩:=inf47
  have:=x_fieldAddr (ty:=ty) (w:=w) Tryd.underlying49 (f:=1) rfl h1 (by rw [h3]; decide) hx
  rwa [add_none] at this
theorem fa49_2 {N:Nat} {ρ:Nat → Value} {w:World} {ty b o:Nat} {x:Operand} (hx:Ev N ρ x (.pointer (some ⟨b,o,none⟩))):Ex Tryd.prog N ρ w (.fieldAddr 49 x 2) ty (.pointer (some ⟨b,o + 4,none⟩)) w:=by
  obtain ⟨i0,h1,_,h3,_⟩:=inf3
  have:=x_fieldAddr (ty:=ty) (w:=w) Tryd.underlying49 (f:=2) rfl h1 (by rw [h3]; decide) hx
  rwa [add_none] at this
theorem fa49_3 {N:Nat} {ρ:Nat → Value} {w:World} {ty b o:Nat} {x:Operand} (hx:Ev N ρ x (.pointer (some ⟨b,o,none⟩))):Ex Tryd.prog N ρ w (.fieldAddr 49 x 3) ty (.pointer (some ⟨b,o + 5,none⟩)) w:=by
  obtain ⟨i0,h1,_,h3,_⟩:=inf30
  have:=x_fieldAddr (ty:=ty) (w:=w) Tryd.underlying49 (f:=3) rfl h1 (by rw [h3]; decide) hx
  rwa [add_none] at this
theorem fa62_0 {N:Nat} {ρ:Nat → Value} {w:World} {ty b o:Nat} {x:Operand} (hx:Ev N ρ x (.pointer (some ⟨b,o,none⟩))):Ex Tryd.prog N ρ w (.fieldAddr 62 x 0) ty (.pointer (some ⟨b,o + 0,none⟩)) w:=by
  obtain ⟨i0,h1,_,h3,_⟩:=inf3
  have:=x_fieldAddr (ty:=ty) (w:=w) Tryd.underlying62 (f:=0) rfl h1 (by rw [h3]; decide) hx
  rwa [add_none] at this
theorem fa62_1 {N:Nat} {ρ:Nat → Value} {w:World} {ty b o:Nat} {x:Operand} (hx:Ev N ρ x (.pointer (some ⟨b,o,none⟩))):Ex Tryd.prog N ρ w (.fieldAddr 62 x 1) ty (.pointer (some ⟨b,o + 1,none⟩)) w:=by
  obtain ⟨i0,h1,_,h3,_⟩:=inf47
  have:=x_fieldAddr (ty:=ty) (w:=w) Tryd.underlying62 (f:=1) rfl h1 (by rw [h3]; decide) hx
  rwa [add_none] at this
theorem fa62_2 {N:Nat} {ρ:Nat → Value} {w:World} {ty b o:Nat} {x:Operand} (hx:Ev N ρ x (.pointer (some ⟨b,o,none⟩))):Ex Tryd.prog N ρ w (.fieldAddr 62 x 2) ty (.pointer (some ⟨b,o + 4,none⟩)) w:=by
  obtain ⟨i0,h1,_,h3,_⟩:=inf25
  have:=x_fieldAddr (ty:=ty) (w:=w) Tryd.underlying62 (f:=2) rfl h1 (by rw [h3]; decide) hx
  rwa [add_none] at this
theorem fa62_3 {N:Nat} {ρ:Nat → Value} {w:World} {ty b o:Nat} {x:Operand} (hx:Ev N ρ x (.pointer (some ⟨b,o,none⟩))):Ex Tryd.prog N ρ w (.fieldAddr 62 x 3) ty (.pointer (some ⟨b,o + 5,none⟩)) w:=by
  obtain ⟨i0,h1,_,h3,_⟩:=inf25
  have:=x_fieldAddr (ty:=ty) (w:=w) Tryd.underlying62 (f:=3) rfl h1 (by rw [h3]; decide) hx
  rwa [add_none] at this
theorem fa62_4 {N:Nat} {ρ:Nat → Value} {w:World} {ty b o:Nat} {x:Operand} (hx:Ev N ρ x (.pointer (some ⟨b,o,none⟩))):Ex Tryd.prog N ρ w (.fieldAddr 62 x 4) ty (.pointer (some ⟨b,o + 6,none⟩)) w:=by
  obtain ⟨i0,h1,_,h3,_⟩:=inf3
  have:=x_fieldAddr (ty:=ty) (w:=w) Tryd.underlying62 (f:=4) rfl h1 (by rw [h3]; decide) hx
  rwa [add_none] at this
theorem fa62_5 {N:Nat} {ρ:Nat → Value} {w:World} {ty b o:Nat} {x:Operand} (hx:Ev N ρ x (.pointer (some ⟨b,o,none⟩))):Ex Tryd.prog N ρ w (.fieldAddr 62 x 5) ty (.pointer (some ⟨b,o + 7,none⟩)) w:=by
  obtain ⟨i0,h1,_,h3,_⟩:=inf44
  have:=x_fieldAddr (ty:=ty) (w:=w) Tryd.underlying62 (f:=5) rfl h1 (by rw [h3]; decide) hx
  rwa [add_none] at this
theorem fa67_0 {N:Nat} {ρ:Nat → Value} {w:World} {ty b o:Nat} {x:Operand} (hx:Ev N ρ x (.pointer (some ⟨b,o,none⟩))):Ex Tryd.prog N ρ w (.fieldAddr 67 x 0) ty (.pointer (some ⟨b,o + 0,none⟩)) w:=by
  obtain ⟨i0,h1,_,h3,_⟩:=inf45
  have:=x_fieldAddr (ty:=ty) (w:=w) Tryd.underlying67 (f:=0) rfl h1 (by rw [h3]; decide) hx
  rwa [add_none] at this
theorem fa67_1 {N:Nat} {ρ:Nat → Value} {w:World} {ty b o:Nat} {x:Operand} (hx:Ev N ρ x (.pointer (some ⟨b,o,none⟩))):Ex Tryd.prog N ρ w (.fieldAddr 67 x 1) ty (.pointer (some ⟨b,o + 1,none⟩)) w:=by
  obtain ⟨i0,h1,_,h3,_⟩:=inf65
  have:=x_fieldAddr (ty:=ty) (w:=w) Tryd.underlying67 (f:=1) rfl h1 (by rw [h3]; decide) hx
  rwa [add_none] at this
theorem fa67_2 {N:Nat} {ρ:Nat → Value} {w:World} {ty b o:Nat} {x:Operand} (hx:Ev N ρ x (.pointer (some ⟨b,o,none⟩))):Ex Tryd.prog N ρ w (.fieldAddr 67 x 2) ty (.pointer (some ⟨b,o + 2,none⟩)) w:=by
  obtain ⟨i0,h1,_,h3,_⟩:=inf30
  have:=x_fieldAddr (ty:=ty) (w:=w) Tryd.underlying67 (f:=2) rfl h1 (by rw [h3]; decide) hx
  rwa [add_none] at this
theorem fa67_3 {N:Nat} {ρ:Nat → Value} {w:World} {ty b o:Nat} {x:Operand} (hx:Ev N ρ x (.pointer (some ⟨b,o,none⟩))):Ex Tryd.prog N ρ w (.fieldAddr 67 x 3) ty (.pointer (some ⟨b,o + 3,none⟩)) w:=by
  obtain ⟨i0,h1,_,h3,_⟩:=inf30
  have:=x_fieldAddr (ty:=ty) (w:=w) Tryd.underlying67 (f:=3) rfl h1 (by rw [h3]; decide) hx
  rwa [add_none] at this
theorem fa69_0 {N:Nat} {ρ:Nat → Value} {w:World} {ty b o:Nat} {x:Operand} (hx:Ev N ρ x (.pointer (some ⟨b,o,none⟩))):Ex Tryd.prog N ρ w (.fieldAddr 69 x 0) ty (.pointer (some ⟨b,o + 0,none⟩)) w:=by
  obtain ⟨i0,h1,_,h3,_⟩:=inf5
  have:=x_fieldAddr (ty:=ty) (w:=w) Tryd.underlying69 (f:=0) rfl h1 (by rw [h3]; decide) hx
  rwa [add_none] at this
theorem fa69_1 {N:Nat} {ρ:Nat → Value} {w:World} {ty b o:Nat} {x:Operand} (hx:Ev N ρ x (.pointer (some ⟨b,o,none⟩))):Ex Tryd.prog N ρ w (.fieldAddr 69 x 1) ty (.pointer (some ⟨b,o + 1,none⟩)) w:=by
  obtain ⟨i0,h1,_,h3,_⟩:=inf30
  have:=x_fieldAddr (ty:=ty) (w:=w) Tryd.underlying69 (f:=1) rfl h1 (by rw [h3]; decide) hx
  rwa [add_none] at this
theorem ix22 {N:Nat} {ρ:Nat → Value} {w:World} {ty b o n c:Nat} {A:Option Addr} {x y:Operand} {k:IntKind} {i:Int} (hx:Ev N ρ x (.slice A n c)) (hA:A = some ⟨b,o,none⟩) (hy:Ev N ρ y (.int k i)) (h0:0 ≤ i) (h1:i < n):Ex Tryd.prog N ρ w (.indexAddr 22 x y) ty (.pointer (some ⟨b,o + i.toNat * 1,none⟩)) w:=by
  obtain ⟨i0,e1,_,e3,_⟩:=inf32
  subst hA
  have:=x_indexAddr (ty:=ty) (w:=w) Tryd.underlying22 e1 hx hy h0 h1
  rwa [add_none,e3] at this
theorem ixo22 {N:Nat} {ρ:Nat → Value} {w:World} {ty b o o' n c:Nat} {A:Option Addr} {x y:Operand} {k:IntKind} {i:Int} (hx:Ev N ρ x (.slice A n c)) (hA:A = some ⟨b,o,none⟩) (hy:Ev N ρ y (.int k i)) (h0:0 ≤ i) (h1:i < n) (ho:o + i.toNat * 1 = o'):Ex Tryd.prog N ρ w (.indexAddr 22 x y) ty (.pointer (some ⟨b,o',none⟩)) w:=by
  subst ho
  exact ix22 hx hA hy h0 h1
theorem ix23 {N:Nat} {ρ:Nat → Value} {w:World} {ty b o n c:Nat} {A:Option Addr} {x y:Operand} {k:IntKind} {i:Int} (hx:Ev N ρ x (.slice A n c)) (hA:A = some ⟨b,o,none⟩) (hy:Ev N ρ y (.int k i)) (h0:0 ≤ i) (h1:i < n):Ex Tryd.prog N ρ w (.indexAddr 23 x y) ty (.pointer (some ⟨b,o + i.toNat * 1,none⟩)) w:=by
  obtain ⟨i0,e1,_,e3,_⟩:=inf25
  subst hA
  have:=x_indexAddr (ty:=ty) (w:=w) Tryd.underlying23 e1 hx hy h0 h1
  rwa [add_none,e3] at this
theorem ixo23 {N:Nat} {ρ:Nat → Value} {w:World} {ty b o o' n c:Nat} {A:Option Addr} {x y:Operand} {k:IntKind} {i:Int} (hx:Ev N ρ x (.slice A n c)) (hA:A = some ⟨b,o,none⟩) (hy:Ev N ρ y (.int k i)) (h0:0 ≤ i) (h1:i < n) (ho:o + i.toNat * 1 = o'):Ex Tryd.prog N ρ w (.indexAddr 23 x y) ty (.pointer (some ⟨b,o',none⟩)) w:=by
  subst ho
  exact ix23 hx hA hy h0 h1
theorem ix25 {N:Nat} {ρ:Nat → Value} {w:World} {ty b o n c:Nat} {A:Option Addr} {x y:Operand} {k:IntKind} {i:Int} (hx:Ev N ρ x (.slice A n c)) (hA:A = some ⟨b,o,none⟩) (hy:Ev N ρ y (.int k i)) (h0:0 ≤ i) (h1:i < n):Ex Tryd.prog N ρ w (.indexAddr 25 x y) ty (.pointer (some ⟨b,o + i.toNat * 2,none⟩)) w:=by
  obtain ⟨i0,e1,_,e3,_⟩:=inf34
  subst hA
  have:=x_indexAddr (ty:=ty) (w:=w) Tryd.underlying25 e1 hx hy h0 h1
  rwa [add_none,e3] at this
theorem ixo25 {N:Nat} {ρ:Nat → Value} {w:World} {ty b o o' n c:Nat} {A:Option Addr} {x y:Operand} {k:IntKind} {i:Int} (hx:Ev N ρ x (.slice A n c)) (hA:A = some ⟨b,o,none⟩) (hy:Ev N ρ y (.int k i)) (h0:0 ≤ i) (h1:i < n) (ho:o + i.toNat * 2 = o'):Ex Tryd.prog N ρ w (.indexAddr 25 x y) ty (.pointer (some ⟨b,o',none⟩)) w:=by
  subst ho
  exact ix25 hx hA hy h0 h1
theorem ix30 {N:Nat} {ρ:Nat → Value} {w:World} {ty b o n c:Nat} {A:Option Addr} {x y:Operand} {k:IntKind} {i:Int} (hx:Ev N ρ x (.slice A n c)) (hA:A = some ⟨b,o,none⟩) (hy:Ev N ρ y (.int k i)) (h0:0 ≤ i) (h1:i < n):Ex Tryd.prog N ρ w (.indexAddr 30 x y) ty (.pointer (some ⟨b,o + i.toNat * 1,none⟩)) w:=by
  obtain ⟨i0,e1,_,e3,_⟩:=inf5
  subst hA
  have:=x_indexAddr (ty:=ty) (w:=w) Tryd.underlying30 e1 hx hy h0 h1
  rwa [add_none,e3] at this
theorem ixo30 {N:Nat} {ρ:Nat → Value} {w:World} {ty b o o' n c:Nat} {A:Option Addr} {x y:Operand} {k:IntKind} {i:Int} (hx:Ev N ρ x (.slice A n c)) (hA:A = some ⟨b,o,none⟩) (hy:Ev N ρ y (.int k i)) (h0:0 ≤ i) (h1:i < n) (ho:o + i.toNat * 1 = o'):Ex Tryd.prog N ρ w (.indexAddr 30 x y) ty (.pointer (some ⟨b,o',none⟩)) w:=by
  subst ho
  exact ix30 hx hA hy h0 h1
theorem ix31 {N:Nat} {ρ:Nat → Value} {w:World} {ty b o n c:Nat} {A:Option Addr} {x y:Operand} {k:IntKind} {i:Int} (hx:Ev N ρ x (.slice A n c)) (hA:A = some ⟨b,o,none⟩) (hy:Ev N ρ y (.int k i)) (h0:0 ≤ i) (h1:i < n):Ex Tryd.prog N ρ w (.indexAddr 31 x y) ty (.pointer (some ⟨b,o + i.toNat * 1,none⟩)) w:=by
  obtain ⟨i0,e1,_,e3,_⟩:=inf3
  subst hA
  have:=x_indexAddr (ty:=ty) (w:=w) Tryd.underlying31 e1 hx hy h0 h1
  rwa [add_none,e3] at this
theorem ixo31 {N:Nat} {ρ:Nat → Value} {w:World} {ty b o o' n c:Nat} {A:Option Addr} {x y:Operand} {k:IntKind} {i:Int} (hx:Ev N ρ x (.slice A n c)) (hA:A = some ⟨b,o,none⟩) (hy:Ev N ρ y (.int k i)) (h0:0 ≤ i) (h1:i < n) (ho:o + i.toNat * 1 = o'):Ex Tryd.prog N ρ w (.indexAddr 31 x y) ty (.pointer (some ⟨b,o',none⟩)) w:=by
  subst ho
  exact ix31 hx hA hy h0 h1
theorem ix32 {N:Nat} {ρ:Nat → Value} {w:World} {ty b o n c:Nat} {A:Option Addr} {x y:Operand} {k:IntKind} {i:Int} (hx:Ev N ρ x (.slice A n c)) (hA:A = some ⟨b,o,none⟩) (hy:Ev N ρ y (.int k i)) (h0:0 ≤ i) (h1:i < n):Ex Tryd.prog N ρ w (.indexAddr 32 x y) ty (.pointer (some ⟨b,o + i.toNat * 1,none⟩)) w:=by
  obtain ⟨i0,e1,_,e3,_⟩:=inf30
  subst hA
  have:=x_indexAddr (ty:=ty) (w:=w) Tryd.underlying32 e1 hx hy h0 h1
  rwa [add_none,e3] at this
theorem ixo32 {N:Nat} {ρ:Nat → Value} {w:World} {ty b o o' n c:Nat} {A:Option Addr} {x y:Operand} {k:IntKind} {i:Int} (hx:Ev N ρ x (.slice A n c)) (hA:A = some ⟨b,o,none⟩) (hy:Ev N ρ y (.int k i)) (h0:0 ≤ i) (h1:i < n) (ho:o + i.toNat * 1 = o'):Ex Tryd.prog N ρ w (.indexAddr 32 x y) ty (.pointer (some ⟨b,o',none⟩)) w:=by
  subst ho
  exact ix32 hx hA hy h0 h1
theorem ix36 {N:Nat} {ρ:Nat → Value} {w:World} {ty b o n c:Nat} {A:Option Addr} {x y:Operand} {k:IntKind} {i:Int} (hx:Ev N ρ x (.slice A n c)) (hA:A = some ⟨b,o,none⟩) (hy:Ev N ρ y (.int k i)) (h0:0 ≤ i) (h1:i < n):Ex Tryd.prog N ρ w (.indexAddr 36 x y) ty (.pointer (some ⟨b,o + i.toNat * 1,none⟩)) w:=by
  obtain ⟨i0,e1,_,e3,_⟩:=inf41
  subst hA
  have:=x_indexAddr (ty:=ty) (w:=w) Tryd.underlying36 e1 hx hy h0 h1
  rwa [add_none,e3] at this
theorem ixo36 {N:Nat} {ρ:Nat → Value} {w:World} {ty b o o' n c:Nat} {A:Option Addr} {x y:Operand} {k:IntKind} {i:Int} (hx:Ev N ρ x (.slice A n c)) (hA:A = some ⟨b,o,none⟩) (hy:Ev N ρ y (.int k i)) (h0:0 ≤ i) (h1:i < n) (ho:o + i.toNat * 1 = o'):Ex Tryd.prog N ρ w (.indexAddr 36 x y) ty (.pointer (some ⟨b,o',none⟩)) w:=by
  subst ho
  exact ix36 hx hA hy h0 h1
theorem ix38 {N:Nat} {ρ:Nat → Value} {w:World} {ty b o n c:Nat} {A:Option Addr} {x y:Operand} {k:IntKind} {i:Int} (hx:Ev N ρ x (.slice A n c)) (hA:A = some ⟨b,o,none⟩) (hy:Ev N ρ y (.int k i)) (h0:0 ≤ i) (h1:i < n):Ex Tryd.prog N ρ w (.indexAddr 38 x y) ty (.pointer (some ⟨b,o + i.toNat * 4,none⟩)) w:=by
  obtain ⟨i0,e1,_,e3,_⟩:=inf67
  subst hA
  have:=x_indexAddr (ty:=ty) (w:=w) Tryd.underlying38 e1 hx hy h0 h1
  rwa [add_none,e3] at this
theorem ixo38 {N:Nat} {ρ:Nat → Value} {w:World} {ty b o o' n c:Nat} {A:Option Addr} {x y:Operand} {k:IntKind} {i:Int} (hx:Ev N ρ x (.slice A n c)) (hA:A = some ⟨b,o,none⟩) (hy:Ev N ρ y (.int k i)) (h0:0 ≤ i) (h1:i < n) (ho:o + i.toNat * 4 = o'):Ex Tryd.prog N ρ w (.indexAddr 38 x y) ty (.pointer (some ⟨b,o',none⟩)) w:=by
  subst ho
  exact ix38 hx hA hy h0 h1
theorem ix41 {N:Nat} {ρ:Nat → Value} {w:World} {ty b o n c:Nat} {A:Option Addr} {x y:Operand} {k:IntKind} {i:Int} (hx:Ev N ρ x (.slice A n c)) (hA:A = some ⟨b,o,none⟩) (hy:Ev N ρ y (.int k i)) (h0:0 ≤ i) (h1:i < n):Ex Tryd.prog N ρ w (.indexAddr 41 x y) ty (.pointer (some ⟨b,o + i.toNat * 6,none⟩)) w:=by
  obtain ⟨i0,e1,_,e3,_⟩:=inf49
  subst hA
  have:=x_indexAddr (ty:=ty) (w:=w) Tryd.underlying41 e1 hx hy h0 h1
  rwa [add_none,e3] at this
theorem ixo41 {N:Nat} {ρ:Nat → Value} {w:World} {ty b o o' n c:Nat} {A:Option Addr} {x y:Operand} {k:IntKind} {i:Int} (hx:Ev N ρ x (.slice A n c)) (hA:A = some ⟨b,o,none⟩) (hy:Ev N ρ y (.int k i)) (h0:0 ≤ i) (h1:i < n) (ho:o + i.toNat * 6 = o'):Ex Tryd.prog N ρ w (.indexAddr 41 x y) ty (.pointer (some ⟨b,o',none⟩)) w:=by
  subst ho
  exact ix41 hx hA hy h0 h1
theorem ix58 {N:Nat} {ρ:Nat → Value} {w:World} {ty b o n c:Nat} {A:Option Addr} {x y:Operand} {k:IntKind} {i:Int} (hx:Ev N ρ x (.slice A n c)) (hA:A = some ⟨b,o,none⟩) (hy:Ev N ρ y (.int k i)) (h0:0 ≤ i) (h1:i < n):Ex Tryd.prog N ρ w (.indexAddr 58 x y) ty (.pointer (some ⟨b,o + i.toNat * 9,none⟩)) w:=by
  obtain ⟨i0,e1,_,e3,_⟩:=inf62
  subst hA
  have:=x_indexAddr (ty:=ty) (w:=w) Tryd.underlying58 e1 hx hy h0 h1
  rwa [add_none,e3] at this
theorem ixo58 {N:Nat} {ρ:Nat → Value} {w:World} {ty b o o' n c:Nat} {A:Option Addr} {x y:Operand} {k:IntKind} {i:Int} (hx:Ev N ρ x (.slice A n c)) (hA:A = some ⟨b,o,none⟩) (hy:Ev N ρ y (.int k i)) (h0:0 ≤ i) (h1:i < n) (ho:o + i.toNat * 9 = o'):Ex Tryd.prog N ρ w (.indexAddr 58 x y) ty (.pointer (some ⟨b,o',none⟩)) w:=by
  subst ho
  exact ix58 hx hA hy h0 h1
theorem ix65 {N:Nat} {ρ:Nat → Value} {w:World} {ty b o n c:Nat} {A:Option Addr} {x y:Operand} {k:IntKind} {i:Int} (hx:Ev N ρ x (.slice A n c)) (hA:A = some ⟨b,o,none⟩) (hy:Ev N ρ y (.int k i)) (h0:0 ≤ i) (h1:i < n):Ex Tryd.prog N ρ w (.indexAddr 65 x y) ty (.pointer (some ⟨b,o + i.toNat * 2,none⟩)) w:=by
  obtain ⟨i0,e1,_,e3,_⟩:=inf69
  subst hA
  have:=x_indexAddr (ty:=ty) (w:=w) Tryd.underlying65 e1 hx hy h0 h1
  rwa [add_none,e3] at this
theorem ixo65 {N:Nat} {ρ:Nat → Value} {w:World} {ty b o o' n c:Nat} {A:Option Addr} {x y:Operand} {k:IntKind} {i:Int} (hx:Ev N ρ x (.slice A n c)) (hA:A = some ⟨b,o,none⟩) (hy:Ev N ρ y (.int k i)) (h0:0 ≤ i) (h1:i < n) (ho:o + i.toNat * 2 = o'):Ex Tryd.prog N ρ w (.indexAddr 65 x y) ty (.pointer (some ⟨b,o',none⟩)) w:=by
  subst ho
  exact ix65 hx hA hy h0 h1
theorem ix73 {N:Nat} {ρ:Nat → Value} {w:World} {ty b o:Nat} {x y:Operand} {k:IntKind} {i:Int} (hx:Ev N ρ x (.pointer (some ⟨b,o,none⟩))) (hy:Ev N ρ y (.int k i)) (h0:0 ≤ i) (h1:i < 16):Ex Tryd.prog N ρ w (.indexAddr 73 x y) ty (.pointer (some ⟨b,o + i.toNat * 1,none⟩)) w:=by
  obtain ⟨i0,e1,_,e3,_⟩:=inf3
  have:=x_indexAddrArr (ty:=ty) (w:=w) (n:=16) Tryd.underlying73 e1 hx hy h0 h1
  rwa [add_none,e3] at this
theorem ixo73 {N:Nat} {ρ:Nat → Value} {w:World} {ty b o o':Nat} {x y:Operand} {k:IntKind} {i:Int} (hx:Ev N ρ x (.pointer (some ⟨b,o,none⟩))) (hy:Ev N ρ y (.int k i)) (h0:0 ≤ i) (h1:i < 16) (ho:o + i.toNat * 1 = o'):Ex Tryd.prog N ρ w (.indexAddr 73 x y) ty (.pointer (some ⟨b,o',none⟩)) w:=by
  subst ho
  exact ix73 hx hy h0 h1
theorem ix94 {N:Nat} {ρ:Nat → Value} {w:World} {ty b o:Nat} {x y:Operand} {k:IntKind} {i:Int} (hx:Ev N ρ x (.pointer (some ⟨b,o,none⟩))) (hy:Ev N ρ y (.int k i)) (h0:0 ≤ i) (h1:i < 32):Ex Tryd.prog N ρ w (.indexAddr 94 x y) ty (.pointer (some ⟨b,o + i.toNat * 1,none⟩)) w:=by
  obtain ⟨i0,e1,_,e3,_⟩:=inf5
  have:=x_indexAddrArr (ty:=ty) (w:=w) (n:=32) Tryd.underlying94 e1 hx hy h0 h1
  rwa [add_none,e3] at this
theorem bl34 {N:Nat} {ρ:Nat → Value} {w:World} {ty:Nat} {parts:List (Nat × Operand)} {ps:List (Nat × Value)} {cs:List Value} (hps:Evp N ρ parts ps) (hf:fillL (([(0,1),(1,1)]:List (Nat × Nat))[·]?) [.int .i64 0,.slice none 0 0] ps = some cs):Ex Tryd.prog N ρ w (.build 34 parts.toArray) ty (.agg cs.toArray) w :=
  x_bld (places:=[(0,1),(1,1)]) Tryd.underlying34 inf34 hps (by kernel_rfl) hf
theorem bl44 {N:Nat} {ρ:Nat → Value} {w:World} {ty:Nat} {parts:List (Nat × Operand)} {ps:List (Nat × Value)} {cs:List Value} (hps:Evp N ρ parts ps) (hf:fillL (([(0,1),(1,1)]:List (Nat × Nat))[·]?) [.int .u64 0,.int .i64 0] ps = some cs):Ex Tryd.prog N ρ w (.build 44 parts.toArray) ty (.agg cs.toArray) w :=
  x_bld (places:=[(0,1),(1,1)]) Tryd.underlying44 inf44 hps (by kernel_rfl) hf
theorem bl47 {N:Nat} {ρ:Nat → Value} {w:World} {ty:Nat} {parts:List (Nat × Operand)} {ps:List (Nat × Value)} {cs:List Value} (hps:Evp N ρ parts ps) (hf:fillL (([(0,2),(2,1)]:List (Nat × Nat))[·]?) [.int .u64 0,.int .i64 0,.int .u16 0] ps = some cs):Ex Tryd.prog N ρ w (.build 47 parts.toArray) ty (.agg cs.toArray) w :=
  x_bld (places:=[(0,2),(2,1)]) Tryd.underlying47 inf47 hps (by kernel_rfl) hf
theorem bl49 {N:Nat} {ρ:Nat → Value} {w:World} {ty:Nat} {parts:List (Nat × Operand)} {ps:List (Nat × Value)} {cs:List Value} (hps:Evp N ρ parts ps) (hf:fillL (([(0,1),(1,3),(4,1),(5,1)]:List (Nat × Nat))[·]?) [.int .u8 0,.int .u64 0,.int .i64 0,.int .u16 0,.int .i64 0,.slice none 0 0] ps = some cs):Ex Tryd.prog N ρ w (.build 49 parts.toArray) ty (.agg cs.toArray) w :=
  x_bld (places:=[(0,1),(1,3),(4,1),(5,1)]) Tryd.underlying49 inf49 hps (by kernel_rfl) hf
theorem bl62 {N:Nat} {ρ:Nat → Value} {w:World} {ty:Nat} {parts:List (Nat × Operand)} {ps:List (Nat × Value)} {cs:List Value} (hps:Evp N ρ parts ps) (hf:fillL (([(0,1),(1,3),(4,1),(5,1),(6,1),(7,2)]:List (Nat × Nat))[·]?) [.int .i64 0,.int .u64 0,.int .i64 0,.int .u16 0,.slice none 0 0,.slice none 0 0,.int .i64 0,.int .u64 0,.int .i64 0] ps = some cs):Ex Tryd.prog N ρ w (.build 62 parts.toArray) ty (.agg cs.toArray) w :=
  x_bld (places:=[(0,1),(1,3),(4,1),(5,1),(6,1),(7,2)]) Tryd.underlying62 inf62 hps (by kernel_rfl) hf
theorem eqs44 (d:Nat) (w:World) (x0 y0:Int) (x1 y1:Int):(Op.equalIn (d + 2) 44 (.agg #[.int .u64 x0,.int .i64 x1]) (.agg #[.int .u64 y0,.int .i64 y1])).run Tryd.prog w = .ok (((x0 == y0) && ((x1 == y1) && true))) w:=by
  exact eq_struct (d:=d + 1) Tryd.underlying44 (by kernel_rfl) (.cons (by kernel_rfl) (part_one (by kernel_rfl) rfl) (part_one (by kernel_rfl) rfl) (eq_int' (d:=d + 0) Tryd.underlying42 _ _) (.cons (by kernel_rfl) (part_one (by kernel_rfl) rfl) (part_one (by kernel_rfl) rfl) (eq_int' (d:=d + 0) Tryd.underlying3 _ _) EqF.nil))
theorem eqg44:Tryd.prog.eqGuardType Tryd.prog.depth 44 = false:=by kernel_rfl
theorem eqs47 (d:Nat) (w:World) (x0 y0:Int) (x1 y1:Int) (x2 y2:Int):(Op.equalIn (d + 3) 47 (.agg #[.int .u64 x0,.int .i64 x1,.int .u16 x2]) (.agg #[.int .u64 y0,.int .i64 y1,.int .u16 y2])).run Tryd.prog w = .ok ((((x0 == y0) && ((x1 == y1) && true)) && ((x2 == y2) && true))) w:=by
  exact eq_struct (d:=d + 2) Tryd.underlying47 (by kernel_rfl) (.cons (by kernel_rfl) (part_agg (by kernel_rfl) inf44 rfl) (part_agg (by kernel_rfl) inf44 rfl) (eqs44 (d + 0) w _ _ _ _) (.cons (by kernel_rfl) (part_one (by kernel_rfl) rfl) (part_one (by kernel_rfl) rfl) (eq_int' (d:=d + 1) Tryd.underlying45 _ _) EqF.nil))
theorem eqg47:Tryd.prog.eqGuardType Tryd.prog.depth 47 = false:=by kernel_rfl
theorem cb10:Cb Tryd.prog 10:=⟨Tryd.f10,Tryd.func10,by kernel_rfl,by kernel_rfl⟩
theorem cb11:Cb Tryd.prog 11:=⟨Tryd.f11,Tryd.func11,by kernel_rfl,by kernel_rfl⟩
theorem cb15:Cb Tryd.prog 15:=⟨Tryd.f15,Tryd.func15,by kernel_rfl,by kernel_rfl⟩
theorem cb17:Cb Tryd.prog 17:=⟨Tryd.f17,Tryd.func17,by kernel_rfl,by kernel_rfl⟩
theorem cb18:Cb Tryd.prog 18:=⟨Tryd.f18,Tryd.func18,by kernel_rfl,by kernel_rfl⟩
theorem cb19:Cb Tryd.prog 19:=⟨Tryd.f19,Tryd.func19,by kernel_rfl,by kernel_rfl⟩
theorem cb20:Cb Tryd.prog 20:=⟨Tryd.f20,Tryd.func20,by kernel_rfl,by kernel_rfl⟩
theorem cb21:Cb Tryd.prog 21:=⟨Tryd.f21,Tryd.func21,by kernel_rfl,by kernel_rfl⟩
theorem cb22:Cb Tryd.prog 22:=⟨Tryd.f22,Tryd.func22,by kernel_rfl,by kernel_rfl⟩
theorem cb24:Cb Tryd.prog 24:=⟨Tryd.f24,Tryd.func24,by kernel_rfl,by kernel_rfl⟩
theorem cb25:Cb Tryd.prog 25:=⟨Tryd.f25,Tryd.func25,by kernel_rfl,by kernel_rfl⟩
theorem cb26:Cb Tryd.prog 26:=⟨Tryd.f26,Tryd.func26,by kernel_rfl,by kernel_rfl⟩
theorem cb28:Cb Tryd.prog 28:=⟨Tryd.f28,Tryd.func28,by kernel_rfl,by kernel_rfl⟩
theorem cb29:Cb Tryd.prog 29:=⟨Tryd.f29,Tryd.func29,by kernel_rfl,by kernel_rfl⟩
theorem cb30:Cb Tryd.prog 30:=⟨Tryd.f30,Tryd.func30,by kernel_rfl,by kernel_rfl⟩
theorem cb31:Cb Tryd.prog 31:=⟨Tryd.f31,Tryd.func31,by kernel_rfl,by kernel_rfl⟩
theorem cb32:Cb Tryd.prog 32:=⟨Tryd.f32,Tryd.func32,by kernel_rfl,by kernel_rfl⟩
theorem cb33:Cb Tryd.prog 33:=⟨Tryd.f33,Tryd.func33,by kernel_rfl,by kernel_rfl⟩
theorem cb34:Cb Tryd.prog 34:=⟨Tryd.f34,Tryd.func34,by kernel_rfl,by kernel_rfl⟩
theorem cb38:Cb Tryd.prog 38:=⟨Tryd.f38,Tryd.func38,by kernel_rfl,by kernel_rfl⟩
theorem cb39:Cb Tryd.prog 39:=⟨Tryd.f39,Tryd.func39,by kernel_rfl,by kernel_rfl⟩
theorem cb47:Cb Tryd.prog 47:=⟨Tryd.f47,Tryd.func47,by kernel_rfl,by kernel_rfl⟩
theorem cb48:Cb Tryd.prog 48:=⟨Tryd.f48,Tryd.func48,by kernel_rfl,by kernel_rfl⟩
theorem cb49:Cb Tryd.prog 49:=⟨Tryd.f49,Tryd.func49,by kernel_rfl,by kernel_rfl⟩
theorem cb51:Cb Tryd.prog 51:=⟨Tryd.f51,Tryd.func51,by kernel_rfl,by kernel_rfl⟩
theorem cb52:Cb Tryd.prog 52:=⟨Tryd.f52,Tryd.func52,by kernel_rfl,by kernel_rfl⟩
end Go.Proofs.YtnikcgcbkdeeeaaDoor

set_option linter.unusedVariables false
set_option linter.unusedSimpArgs false
namespace Go.FM
def has (s:Nat) (i:Int):Bool:=decide (0 ≤ i∧i < 16∧s / 2 ^ i.toNat % 2 = 1)
def pc:Nat → Nat → Nat
  | 0,_ => 0
  | f + 1,s => s % 2 + pc f (s / 2)
def cnt (s:Nat):Nat:=pc 16 s
def els:Nat → Nat → Nat → List Nat
  | 0,_,_ => []
  | f + 1,o,s => if s % 2 = 1 then o::els f (o + 1) (s / 2) else els f (o + 1) (s / 2)
def lst (s:Nat):List Nat:=els 16 0 s
def low:Nat → Nat → Nat
  | 0,_ => 0
  | f + 1,s => if s % 2 = 1 then 0 else low f (s / 2) + 1
def least (s:Nat):Int:=if s = 0 then -1 else low 16 s
def wth (s:Nat) (i:Int):Nat:=if 0 ≤ i∧i < 16 then s ||| 2 ^ i.toNat else s
def wto (s:Nat) (i:Int):Nat:=if 0 ≤ i∧i < 16 then s &&& (65535 - 2 ^ i.toNat) else s
theorem pc_le:∀ (f s:Nat),pc f s ≤ f
  | 0,s => by simp [pc]
  | f + 1,s => by simp only [pc]; have:=pc_le f (s / 2); omega
theorem and_mod2 (a b:Nat):(a &&& b) % 2 = a % 2 * (b % 2):=by
  have h1:=Nat.mod_two_eq_zero_or_one a
  have h2:=Nat.mod_two_eq_zero_or_one b
  have h3:=Nat.and_mod_two_pow (a:=a) (b:=b) (n:=1)
  simp only [Nat.pow_one] at h3
  rw [h3]
  rcases h1 with h1 | h1 <;> rcases h2 with h2 | h2 <;> simp [h1,h2]
theorem or_mod2 (a b:Nat):(a ||| b) % 2 = a % 2 + b % 2 - a % 2 * (b % 2):=by
  have h1:=Nat.mod_two_eq_zero_or_one a
  have h2:=Nat.mod_two_eq_zero_or_one b
  have h3:=Nat.or_mod_two_pow (a:=a) (b:=b) (n:=1)
  simp only [Nat.pow_one] at h3
  rw [h3]
  rcases h1 with h1 | h1 <;> rcases h2 with h2 | h2 <;> simp [h1,h2]
theorem and_div2 (a b:Nat):(a &&& b) / 2 = a / 2 &&& b / 2:=by
  have:=Nat.and_div_two_pow (a:=a) (b:=b) (n:=1)
  simpa using this
theorem or_div2 (a b:Nat):(a ||| b) / 2 = a / 2 ||| b / 2:=by
  have:=Nat.or_div_two_pow (a:=a) (b:=b) (n:=1)
  simpa using this
theorem pc_zero:∀ (f:Nat),pc f 0 = 0
  | 0 => rfl
  | f + 1 => by simp [pc,pc_zero f]
theorem pc_lt:∀ (f k s:Nat),s < 2 ^ k → pc f s ≤ k
  | 0,k,s,_ => by simp [pc]
  | f + 1,0,s,h => by
    have:s = 0:=by omega
    subst this; rw [pc_zero]; omega
  | f + 1,k + 1,s,h => by
    simp only [pc]
    have:=pc_lt f k (s / 2) (by rw [Nat.pow_succ] at h; omega)
    omega
theorem land_pred_even (t:Nat) (ht:t ≠ 0):(2 * t) &&& (2 * t - 1) = 2 * (t &&& (t - 1)):=by
  have h1:((2 * t) &&& (2 * t - 1)) % 2 = 0:=by rw [and_mod2]; simp
  have h2:((2 * t) &&& (2 * t - 1)) / 2 = t &&& (t - 1):=by
    rw [and_div2]
    congr 1 <;> omega
  omega
theorem land_pred_odd (t:Nat):(2 * t + 1) &&& (2 * t) = 2 * t:=by
  have h1:((2 * t + 1) &&& (2 * t)) % 2 = 0:=by rw [and_mod2]; simp
  have h2:((2 * t + 1) &&& (2 * t)) / 2 = t:=by
    rw [and_div2,show (2 * t + 1) / 2 = t by omega,show 2 * t / 2 = t by omega,Nat.and_self]
  omega
theorem els_pred:∀ (f o s:Nat),s ≠ 0 → s < 2 ^ f → els f o s = (o + low f s)::els f o (s &&& (s - 1))
  | 0,o,s,h,h2 => by simp at h2; omega
  | f + 1,o,s,h,h2 => by
    rcases Nat.mod_two_eq_zero_or_one s with hs | hs
    · obtain ⟨t,rfl⟩:∃ t,s = 2 * t:=⟨s / 2,by omega⟩
      have ht:t ≠ 0:=by omega
      rw [land_pred_even t ht]
      have e1:2 * t / 2 = t:=by omega
      have e2:2 * (t &&& (t - 1)) / 2 = t &&& (t - 1):=by omega
      have e3:2 * t % 2 ≠ 1:=by omega
      have e4:2 * (t &&& (t - 1)) % 2 ≠ 1:=by omega
      simp only [els,low,e1,e2,if_neg e3,if_neg e4]
      rw [els_pred f (o + 1) t ht (by rw [Nat.pow_succ] at h2; omega)]
      congr 1; omega
    · obtain ⟨t,rfl⟩:∃ t,s = 2 * t + 1:=⟨s / 2,by omega⟩
      rw [show 2 * t + 1 - 1 = 2 * t by omega,land_pred_odd]
      have e1:(2 * t + 1) / 2 = t:=by omega
      have e2:2 * t / 2 = t:=by omega
      have e3:(2 * t + 1) % 2 = 1:=by omega
      have e4:2 * t % 2 ≠ 1:=by omega
      simp only [els,low,e1,e2,if_pos e3,if_neg e4,Nat.add_zero]
theorem lst_pred (s:Nat) (h:s ≠ 0) (h2:s < 65536):lst s = low 16 s::lst (s &&& (s - 1)):=by
  have:=els_pred 16 0 s h (by simpa using h2)
  simpa [lst] using this
theorem els_zero:∀ (f o:Nat),els f o 0 = []
  | 0,_ => rfl
  | f + 1,o => by simp [els,els_zero f]
theorem els_length:∀ (f o s:Nat),(els f o s).length = pc f s
  | 0,_,_ => rfl
  | f + 1,o,s => by
    simp only [els,pc]
    have:=els_length f (o + 1) (s / 2)
    rcases Nat.mod_two_eq_zero_or_one s with hs | hs
    · rw [if_neg (by omega)]; omega
    · rw [if_pos hs,List.length_cons]; omega
theorem lst_length (s:Nat):(lst s).length = cnt s:=els_length 16 0 s
theorem low_lt:∀ (f s:Nat),s ≠ 0 → s < 2 ^ f → low f s < f
  | 0,s,h,h2 => by simp at h2; omega
  | f + 1,s,h,h2 => by
    simp only [low]
    split
    · omega
    · have:=low_lt f (s / 2) (by omega) (by rw [Nat.pow_succ] at h2; omega)
      omega
theorem els_mem:∀ (f o s i:Nat),i ∈ els f o s ↔ o ≤ i∧i < o + f∧s / 2 ^ (i - o) % 2 = 1
  | 0,o,s,i => by simp [els]; omega
  | f + 1,o,s,i => by
    have ih:=els_mem f (o + 1) (s / 2) i
    have key:o + 1 ≤ i → s / 2 / 2 ^ (i - (o + 1)) = s / 2 ^ (i - o):=fun h => by
      rw [Nat.div_div_eq_div_mul,show i - o = (i - (o + 1)) + 1 by omega,Nat.pow_succ,Nat.mul_comm]
    have key2:i = o → s / 2 ^ (i - o) = s:=fun h => by subst h; simp
    simp only [els]
    split
    · rename_i hs
      rw [List.mem_cons,ih]
      constructor
      · rintro (rfl | ⟨h1,h2,h3⟩)
        · exact ⟨by omega,by omega,by simpa using hs⟩
        · exact ⟨by omega,by omega,by rw [← key h1]; exact h3⟩
      · rintro ⟨h1,h2,h3⟩
        by_cases e:i = o
        · exact .inl e
        · exact .inr ⟨by omega,by omega,by rw [key (by omega)]; exact h3⟩
    · rename_i hs
      rw [ih]
      constructor
      · rintro ⟨h1,h2,h3⟩
        exact ⟨by omega,by omega,by rw [← key h1]; exact h3⟩
      · rintro ⟨h1,h2,h3⟩
        by_cases e:i = o
        · rw [key2 e] at h3; omega
        · exact ⟨by omega,by omega,by rw [key (by omega)]; exact h3⟩
theorem or_set:∀ (i s:Nat),s / 2 ^ i % 2 = 1 → s ||| 2 ^ i = s
  | 0,s,h => by
    simp only [Nat.pow_zero,Nat.div_one] at h ⊢
    have h1:=or_mod2 s 1
    have h2:=or_div2 s 1
    rw [show (1:Nat) / 2 = 0 from rfl,Nat.or_zero] at h2
    rw [show (1:Nat) % 2 = 1 from rfl] at h1
    omega
  | i + 1,s,h => by
    rw [Nat.pow_succ,Nat.mul_comm,← Nat.div_div_eq_div_mul] at h
    have ih:=or_set i (s / 2) h
    have h1:=or_mod2 s (2 ^ (i + 1))
    have h2:=or_div2 s (2 ^ (i + 1))
    have e1:2 ^ (i + 1) % 2 = 0:=by rw [Nat.pow_succ]; omega
    have e2:2 ^ (i + 1) / 2 = 2 ^ i:=by rw [Nat.pow_succ]; omega
    rw [e1] at h1
    rw [e2] at h2
    simp only [Nat.mul_zero,Nat.add_zero,Nat.sub_zero] at h1
    omega
end Go.FM

set_option linter.unusedVariables false
namespace Go.FM
theorem bit_ltN {j:Nat} (h:j < 16):2 ^ j < 65536:=by
  have:2 ^ j ≤ 2 ^ 15:=Nat.pow_le_pow_right (by omega) (by omega)
  have e:(2:Nat) ^ 15 = 32768:=by decide
  omega
theorem bit_lt {i:Int} (h:i < 16):2 ^ i.toNat < 65536:=bit_ltN (by omega)
theorem wth_lt {s:Nat} (h:s < 65536) (i:Int):wth s i < 65536:=by
  unfold wth; split
  · exact Nat.or_lt_two_pow (n:=16) h (bit_lt (by omega))
  · exact h
theorem wto_lt {s:Nat} (h:s < 65536) (i:Int):wto s i < 65536:=by
  unfold wto; split
  · exact Nat.lt_of_le_of_lt Nat.and_le_left h
  · exact h
def cmpI (a b:Int):Int:=if a < b then -1 else if b < a then 1 else 0
def cmpV (an:Nat) (ap:Int) (bn:Nat) (bp:Int):Int:=if cmpI an bn ≠ 0 then cmpI an bn else cmpI ap bp
theorem has_yes {s:Nat} {i:Int} (h0:0 ≤ i) (h1:i < 16):decide ((((s / 2 ^ i.toNat) &&& 1:Nat):Int) = 1) = has s i:=by
  rw [Nat.and_one_is_mod]
  simp only [has,decide_eq_decide]
  omega
theorem has_no {s:Nat} {i:Int} (h:¬ (0 ≤ i) ∨ ¬ (i < 16)):false = has s i:=by
  simp only [has]
  exact (decide_eq_false (by omega)).symm
theorem has_spec' {s:Nat} {i:Int} {b:Bool} (h:has s i = b) (h0:0 ≤ i) (h1:i < 16):s / 2 ^ i.toNat % 2 = if b then 1 else 0:=by
  unfold has at h
  cases b with
  | true => have:=of_decide_eq_true h; simp [this.2.2]
  | false => have:=of_decide_eq_false h; simp; omega
theorem has_in {s:Nat} {i:Int} (h:has s i = true):0 ≤ i∧i < 16:=by
  have:=of_decide_eq_true h
  exact ⟨this.1,this.2.1⟩
theorem wth_has {s:Nat} {i:Int} (h:has s i = true):s = wth s i:=by
  have hi:=has_in h
  have:=has_spec' h hi.1 hi.2
  unfold wth
  rw [if_pos hi,or_set _ _ (by simpa using this)]
theorem has_le {s:Nat} {i:Int} (h:has s i = true):2 ^ i.toNat ≤ s:=by
  have hi:=has_in h
  have:=has_spec' h hi.1 hi.2
  rcases Nat.lt_or_ge s (2 ^ i.toNat) with h | h
  · rw [Nat.div_eq_of_lt h] at this; simp at this
  · exact h
theorem land_compl:∀ (f t:Nat),t < 2 ^ f → t &&& (2 ^ f - 1 - t) = 0
  | 0,t,h => by
    have:t = 0:=by simpa using h
    subst this; rfl
  | f + 1,t,h => by
    have e3:2 ^ (f + 1) = 2 * 2 ^ f:=by rw [Nat.pow_succ]; omega
    have h1:=and_mod2 t (2 ^ (f + 1) - 1 - t)
    have h2:=and_div2 t (2 ^ (f + 1) - 1 - t)
    have ih:=land_compl f (t / 2) (by omega)
    have e1:(2 ^ (f + 1) - 1 - t) / 2 = 2 ^ f - 1 - t / 2:=by omega
    rw [e1,ih] at h2
    rcases Nat.mod_two_eq_zero_or_one t with hm | hm
    · rw [hm] at h1; omega
    · have e2:(2 ^ (f + 1) - 1 - t) % 2 = 0:=by omega
      rw [e2] at h1; omega
theorem land_neg:∀ (f s:Nat),s ≠ 0 → s < 2 ^ f → s &&& (2 ^ f - s) = 2 ^ low f s
  | 0,s,h,h2 => by simp at h2; omega
  | f + 1,s,h,h2 => by
    have e3:2 ^ (f + 1) = 2 * 2 ^ f:=by rw [Nat.pow_succ]; omega
    have k1:=and_mod2 s (2 ^ (f + 1) - s)
    have k2:=and_div2 s (2 ^ (f + 1) - s)
    simp only [low]
    rcases Nat.mod_two_eq_zero_or_one s with hs | hs
    · rw [if_neg (by omega),show 2 ^ (low f (s / 2) + 1) = 2 * 2 ^ low f (s / 2) by rw [Nat.pow_succ]; omega]
      have ih:=land_neg f (s / 2) (by omega) (by omega)
      have e1:(2 ^ (f + 1) - s) / 2 = 2 ^ f - s / 2:=by omega
      rw [e1,ih] at k2
      rw [hs] at k1
      omega
    · rw [if_pos hs,Nat.pow_zero]
      have e1:(2 ^ (f + 1) - s) / 2 = 2 ^ f - 1 - s / 2:=by omega
      have e2:(2 ^ (f + 1) - s) % 2 = 1:=by omega
      rw [e1,land_compl f (s / 2) (by omega)] at k2
      rw [hs,e2] at k1
      omega
theorem cmpV_ne {an bn:Nat} {ap bp:Int} (h:cmpI an bn ≠ 0):cmpI an bn = cmpV an ap bn bp:=by unfold cmpV; rw [if_pos h]
theorem cmpV_eq {an bn:Nat} {ap bp:Int} (h:¬ (cmpI an bn ≠ 0)):cmpI ap bp = cmpV an ap bn bp:=by unfold cmpV; rw [if_neg h]
theorem cmpV_zero (an:Nat) (ap:Int) (bn:Nat) (bp:Int):cmpV an ap bn bp = 0 ↔ an = bn∧ap = bp:=by
  unfold cmpV cmpI
  repeat' split
  all_goals omega
theorem cmpV_pos (an:Nat) (ap:Int) (bn:Nat) (bp:Int):0 < cmpV an ap bn bp ↔ bn < an ∨ bn = an∧bp < ap:=by
  unfold cmpV cmpI
  repeat' split
  all_goals omega
theorem mask_lt {k:Nat} (a:Nat):a &&& (2 ^ k - 1) < 2 ^ k:=by
  have:=Nat.two_pow_pos k
  exact Nat.lt_of_le_of_lt Nat.and_le_right (by omega)
theorem lst_lt {s i z:Nat} (h:(lst s)[i]? = some z):z < 16:=by
  have:=List.mem_of_getElem? h
  have:=(els_mem 16 0 s z).1 this
  omega
theorem has_lst {s z:Nat}:z ∈ lst s ↔ has s (z:Int) = true:=by
  rw [lst,els_mem]
  simp only [has,decide_eq_true_eq]
  simp
  omega
theorem eq_of_bits:∀ (f a b:Nat),a < 2 ^ f → b < 2 ^ f → (∀ j,j < f → (a / 2 ^ j % 2 = 1 ↔ b / 2 ^ j % 2 = 1)) → a = b
  | 0,a,b,ha,hb,_ => by simp at ha hb; omega
  | f + 1,a,b,ha,hb,h => by
    have h0:=h 0 (by omega)
    simp only [Nat.pow_zero,Nat.div_one] at h0
    have ih:=eq_of_bits f (a / 2) (b / 2) (by rw [Nat.pow_succ] at ha; omega) (by rw [Nat.pow_succ] at hb; omega) (fun j hj => by
      have:=h (j + 1) (by omega)
      rw [Nat.pow_succ,Nat.mul_comm,← Nat.div_div_eq_div_mul,← Nat.div_div_eq_div_mul] at this
      exact this)
    omega
theorem testBit_iff (s j:Nat):s.testBit j = true ↔ s / 2 ^ j % 2 = 1:=by
  rw [Nat.testBit_eq_decide_div_mod_eq]; simp
theorem wth_bit {a z j:Nat} (hz:z < 16):(wth a (z:Int)) / 2 ^ j % 2 = 1 ↔ a / 2 ^ j % 2 = 1 ∨ j = z:=by
  unfold wth
  rw [if_pos (by omega),← testBit_iff,← testBit_iff]
  simp only [Int.toNat_natCast,Nat.testBit_or,Nat.testBit_two_pow,Bool.or_eq_true,decide_eq_true_eq]
  rw [eq_comm (a:=z) (b:=j)]
theorem wto_bit {a z j:Nat} (hz:z < 16) (hj:j < 16) (ha:a < 65536):(wto a (z:Int)) / 2 ^ j % 2 = 1 ↔ a / 2 ^ j % 2 = 1∧j ≠ z:=by
  unfold wto
  rw [if_pos (by omega),← testBit_iff,← testBit_iff]
  simp only [Int.toNat_natCast,Nat.testBit_and,Bool.and_eq_true]
  have e:(65535 - 2 ^ z).testBit j = decide (j ≠ z):=by
    have:(2 ^ 16 - (2 ^ z + 1)).testBit j = (decide (j < 16) && !(2 ^ z).testBit j):=Nat.testBit_two_pow_sub_succ (bit_ltN hz) j
    rw [show 65535 - 2 ^ z = 2 ^ 16 - (2 ^ z + 1) by omega,this,Nat.testBit_two_pow]
    simp [hj]
    constructor <;> (intro h; omega)
  rw [e]; simp
structure Built (s n i a b:Nat):Prop where
  la:a < 65536
  lb:b < 65536
  a:∀ j,j < 16 → (a / 2 ^ j % 2 = 1 ↔ ∃ q,q < i∧(lst s)[(q + n) % (lst s).length]? = some j)
  b:∀ j,j < 16 → (b / 2 ^ j % 2 = 1 ↔ s / 2 ^ j % 2 = 1∧¬ ∃ q,q < i∧(lst s)[(q + n) % (lst s).length]? = some j)
theorem Built.start {s n:Nat} (h:s < 65536):Built s n 0 0 s:=⟨by omega,h,fun j _ => by simp,fun j _ => by simp⟩
theorem Built.next {s n i a b z:Nat} (h:Built s n i a b) (hi:i < (lst s).length) (hz:(lst s)[(i + n) % (lst s).length]? = some z) (b_s:s < 65536) :
    Built s n (i + 1) (wth (wth a (z:Int)) (z:Int)) (wto (wto b (z:Int)) (z:Int)):=by
  have hz16:=lst_lt hz
  have key:∀ j,(∃ q,q < i + 1∧(lst s)[(q + n) % (lst s).length]? = some j) ↔ (∃ q,q < i∧(lst s)[(q + n) % (lst s).length]? = some j) ∨ j = z:=by
    intro j
    constructor
    · rintro ⟨q,hq,he⟩
      by_cases e:q = i
      · subst e; rw [hz] at he; injection he with he; exact .inr he.symm
      · exact .inl ⟨q,by omega,he⟩
    · rintro (⟨q,hq,he⟩ | rfl)
      · exact ⟨q,by omega,he⟩
      · exact ⟨i,by omega,hz⟩
  refine ⟨wth_lt (wth_lt h.la _) _,wto_lt (wto_lt h.lb _) _,fun j hj => ?_,fun j hj => ?_⟩
  · rw [wth_bit hz16,wth_bit hz16,h.a j hj,key]
    constructor
    · rintro ((h | h) | h)
      · exact .inl h
      · exact .inr h
      · exact .inr h
    · rintro (h | h)
      · exact .inl (.inl h)
      · exact .inr h
  · rw [wto_bit hz16 hj (wto_lt h.lb _),wto_bit hz16 hj h.lb,h.b j hj,key]
    constructor
    · rintro ⟨⟨⟨h1,h2⟩,h3⟩,_⟩
      exact ⟨h1,fun h => h.elim h2 h3⟩
    · rintro ⟨h1,h2⟩
      exact ⟨⟨⟨h1,fun h => h2 (.inl h)⟩,fun h => h2 (.inr h)⟩,fun h => h2 (.inr h)⟩
theorem Built.done {s n i a b:Nat} (h:Built s n i a b) (b_s:s < 65536) (hi:i = (lst s).length):a = s∧b = 0:=by
  have all:∀ j,j < 16 → ((∃ q,q < i∧(lst s)[(q + n) % (lst s).length]? = some j) ↔ s / 2 ^ j % 2 = 1):=by
    intro j hj
    have hm:j ∈ lst s ↔ s / 2 ^ j % 2 = 1:=by rw [lst,els_mem]; simp; omega
    rw [← hm]
    constructor
    · rintro ⟨q,_,he⟩; exact List.mem_of_getElem? he
    · intro hmem
      obtain ⟨p,hp⟩:=List.getElem?_of_mem hmem
      have hpl:=(List.getElem?_eq_some_iff.1 hp).1
      refine ⟨(p + (lst s).length - n % (lst s).length) % (lst s).length,by rw [hi]; exact Nat.mod_lt _ (by omega),?_⟩
      have hnl:=Nat.mod_lt n (show 0 < (lst s).length by omega)
      have:((p + (lst s).length - n % (lst s).length) % (lst s).length + n) % (lst s).length = p:=by
        rw [Nat.mod_add_mod]
        have e:p + (lst s).length - n % (lst s).length + n = p + (lst s).length * (1 + n / (lst s).length):=by
          have:=Nat.div_add_mod n (lst s).length
          rw [Nat.mul_add,Nat.mul_one]
          omega
        rw [e,Nat.add_mul_mod_self_left,Nat.mod_eq_of_lt hpl]
      rw [this]; exact hp
  refine ⟨eq_of_bits 16 a s (by simpa using h.la) (by simpa using b_s) fun j hj => by rw [h.a j hj,all j hj],eq_of_bits 16 b 0 (by simpa using h.lb) (by decide) fun j hj => ?_⟩
  rw [h.b j hj,all j hj]
  simp
end Go.FM

set_option linter.unusedVariables false
namespace Go.FM
open Go
theorem c_cut {P:Program} {Q:Exit → Act → World → Prop} {N:Nat} {ρ:Nat → Value} {w:World} {x y:Code} (I:(Nat → Value) → World → Prop) (h:x.wp P (Exit.then (fun a' w' => ∃ ρ',a' = en N ρ'∧I ρ' w') Q) (en N ρ) w)
    (k:∀ ρ w,I ρ w → y.wp P Q (en N ρ) w):(Code.seq x y).wp P Q (en N ρ) w :=
  c_seq (wp_mono h fun e a w hq => by
    cases e with
    | normal => obtain ⟨ρ',rfl,hi⟩:=hq; exact k ρ' w hi
    | _ => exact hq)
theorem cVb {a b:Bool} (h:a = b):Value.bool a = Value.bool b:=congrArg Value.bool h
theorem yk {N:Nat} {ρ:Nat → Value} {ops:Array Oper} {j:Nat} (dj:Nat) (b:Bool) {x:Bool} (ho:(ops[j]?).bind (·.dst) = some dj) (hd:Nat.blt dj N = true) (h:x = b) (hv:ρ dj = .bool x:=by rfl):yielded ops (en N ρ).tmps j = some b:=yl ho hd (hv.trans (congrArg Value.bool h))
theorem St.p1 {H:Hp} {w:World} {r0 r1:Res} {L:List Res} (h:St H w (r0::r1::L)):St H w (r1::r0::L):=h.pick 1 rfl rfl
theorem St.p2 {H:Hp} {w:World} {r0 r1 r2:Res} {L:List Res} (h:St H w (r0::r1::r2::L)):St H w (r2::r0::r1::L):=h.pick 2 rfl rfl
theorem St.p3 {H:Hp} {w:World} {r0 r1 r2 r3:Res} {L:List Res} (h:St H w (r0::r1::r2::r3::L)):St H w (r3::r0::r1::r2::L):=h.pick 3 rfl rfl
theorem St.p4 {H:Hp} {w:World} {r0 r1 r2 r3 r4:Res} {L:List Res} (h:St H w (r0::r1::r2::r3::r4::L)):St H w (r4::r0::r1::r2::r3::L):=h.pick 4 rfl rfl
theorem St.p5 {H:Hp} {w:World} {r0 r1 r2 r3 r4 r5:Res} {L:List Res} (h:St H w (r0::r1::r2::r3::r4::r5::L)):St H w (r5::r0::r1::r2::r3::r4::L):=h.pick 5 rfl rfl
end Go.FM

set_option linter.unusedVariables false
set_option linter.unusedSimpArgs false
namespace Go.FM
open Go
section
variable {P:Program} {ops:Array Oper} {Q:Exit → Act → World → Prop} {K:Act → World → Prop} {a:Act} {w:World} {N:Nat} {ρ:Nat → Value} {C:World → Prop} {Qa Ka:Act → Prop} {o:Oper}
theorem upon_join {next next':Act → World → Prop} (hn:∀ a w,next a w → next' a w) (h:o.wp P a w next (Qn K)):o.wp P a w next' Q:=by
  unfold Oper.wp at h ⊢
  generalize (execOp a.eval o).run P w = r at h ⊢
  cases r with
  | ok n w' =>
    cases n <;> simp only [Oper.upon] at h ⊢
    case value v => exact hn _ _ h
    case skip => exact hn _ _ h
    case defer d => exact hn _ _ h
    case enter f args =>
      refine Calls.mono h fun e w'' he => ?_
      cases e with
      | returned v => exact hn _ _ he
      | panicked c => exact absurd he.1 (by intro e; cases e)
      | outgrown => exact absurd he not_letsOut
    case row row args => exact Rows.mono h fun v w'' he => hn _ _ he
  | halt x w' =>
    cases x <;> simp only [Oper.upon] at h ⊢
    case panic v => exact absurd h.1 (by intro e; cases e)
theorem wpList_app:∀ (l1 l2:List Oper) (a:Act) (w:World),wpList P ops (Qn (wpList P ops Q l2)) l1 a w → wpList P ops Q (l1 ++ l2) a w
  | [],l2,a,w,h => h.2
  | o::l1,l2,a,w,h => by
    simp only [wpList,List.cons_append] at h ⊢
    split
    · rename_i hw
      rw [if_pos hw] at h
      left
      rcases h with h | ⟨_,h⟩
      · exact upon_join (fun a w h => wpList_app l1 l2 a w h) h
      · exact absurd h not_letsOut
    · rename_i hw
      rw [if_neg hw] at h
      exact wpList_app l1 l2 _ w h
theorem wpQuiet_app:∀ (l1 l2:List Oper) (a:Act),wpQuiet P ops C (wpQuiet P ops C Qa l2) l1 a → wpQuiet P ops C Qa (l1 ++ l2) a
  | [],l2,a,h => h
  | o::l1,l2,a,h => by
    simp only [wpQuiet,List.cons_append] at h ⊢
    split
    · rename_i hw
      rw [if_pos hw] at h
      exact Oper.quiet_mono (fun a h => wpQuiet_app l1 l2 a h) h
    · rename_i hw
      rw [if_neg hw] at h
      exact wpQuiet_app l1 l2 _ h
theorem wpList_mono {K K':Act → World → Prop} (hk:∀ a w,K a w → K' a w):∀ (l:List Oper) (a:Act) (w:World),wpList P ops (Qn K) l a w → wpList P ops (Qn K') l a w
  | [],a,w,h => ⟨h.1,hk a w h.2⟩
  | o::l,a,w,h => by
    simp only [wpList] at h ⊢
    split
    · rename_i hw
      rw [if_pos hw] at h
      left
      rcases h with h | ⟨_,h⟩
      · exact upon_join (fun a w h => wpList_mono hk l a w h) h
      · exact absurd h not_letsOut
    · rename_i hw
      rw [if_neg hw] at h
      exact wpList_mono hk l _ w h
theorem wpQuiet_mono {Q':Act → Prop} (hk:∀ a,Qa a → Q' a):∀ (l:List Oper) (a:Act),wpQuiet P ops C Qa l a → wpQuiet P ops C Q' l a
  | [],a,h => hk a h
  | o::l,a,h => by
    simp only [wpQuiet] at h ⊢
    split
    · rename_i hw
      rw [if_pos hw] at h
      exact Oper.quiet_mono (fun a h => wpQuiet_mono hk l a h) h
    · rename_i hw
      rw [if_neg hw] at h
      exact wpQuiet_mono hk l _ h
theorem jn {l:List Oper} (k:Nat) (S:(Nat → Value) → Prop) (h:wpList P ops (Qn fun a' w' => ∃ ρ',a' = en N ρ'∧w' = w∧S ρ') (l.take k) (en N ρ) w) (c:∀ ρ',S ρ' → wpList P ops Q (l.drop k) (en N ρ') w):wpList P ops Q l (en N ρ) w:=by
  have h2:=wpList_app (Q:=Q) (l.take k) (l.drop k) (en N ρ) w (wpList_mono (fun a' w' h => by obtain ⟨ρ',rfl,rfl,hS⟩:=h; exact c ρ' hS) _ _ _ h)
  rwa [List.take_append_drop] at h2
theorem jw {l:List Oper} (k:Nat) (S:(Nat → Value) → World → Prop) (h:wpList P ops (Qn fun a' w' => ∃ ρ',a' = en N ρ'∧S ρ' w') (l.take k) (en N ρ) w) (c:∀ ρ' w',S ρ' w' → wpList P ops Q (l.drop k) (en N ρ') w'):wpList P ops Q l (en N ρ) w:=by
  have h2:=wpList_app (Q:=Q) (l.take k) (l.drop k) (en N ρ) w (wpList_mono (fun a' w' h => by obtain ⟨ρ',rfl,hS⟩:=h; exact c ρ' w' hS) _ _ _ h)
  rwa [List.take_append_drop] at h2
theorem jw_end {S:(Nat → Value) → World → Prop} (h:S ρ w):wpList P ops (Qn fun a' w' => ∃ ρ',a' = en N ρ'∧S ρ' w') [] (en N ρ) w:=⟨rfl,ρ,rfl,h⟩
theorem jq {l:List Oper} (k:Nat) (S:(Nat → Value) → Prop) (h:wpQuiet P ops C (fun a' => ∃ ρ',a' = en N ρ'∧S ρ') (l.take k) (en N ρ)) (c:∀ ρ',S ρ' → wpQuiet P ops C Qa (l.drop k) (en N ρ')):wpQuiet P ops C Qa l (en N ρ):=by
  have h2:=wpQuiet_app (Qa:=Qa) (l.take k) (l.drop k) (en N ρ) (wpQuiet_mono (fun a' h => by obtain ⟨ρ',rfl,hS⟩:=h; exact c ρ' hS) _ _ h)
  rwa [List.take_append_drop] at h2
theorem jq_end {S:(Nat → Value) → Prop} (h:S ρ):wpQuiet P ops C (fun a' => ∃ ρ',a' = en N ρ'∧S ρ') [] (en N ρ):=⟨ρ,rfl,h⟩
end
section
variable {a b:Bool} {p q:Prop}
theorem jor_f (h:a = false):b = (a || b):=by rw [h]; rfl
theorem jor_t (h:a = true):true = (a || b):=by rw [h]; rfl
theorem jand_t (h:a = true):b = (a && b):=by rw [h]; rfl
theorem jand_f (h:a = false):false = (a && b):=by rw [h]; rfl
theorem J_or (h:a = true ↔ p) (k:b = true ↔ q):(a || b) = true ↔ (p ∨ q):=by rw [Bool.or_eq_true,h,k]
theorem J_and (h:a = true ↔ p) (k:b = true ↔ q):(a && b) = true ↔ (p∧q):=by rw [Bool.and_eq_true,h,k]
theorem J_not (h:a = true ↔ p):(!a) = true ↔ ¬ p:=by rw [Bool.not_eq_true',← h,Bool.not_eq_true]
theorem J_no (h:a = true ↔ p) (k:a = false):¬ p:=fun hp => by rw [h.2 hp] at k; cases k
end
end Go.FM

set_option linter.unusedVariables false
set_option linter.unusedSimpArgs false
namespace Go.FM
open Go
section
variable {P:Program} {ops:Array Oper} {Q:Exit → Act → World → Prop} {md:Region.Mode} {S S':World → Prop} {Z F:List Nat}
def depT (md:Region.Mode) (ops:Array Oper):Nat → Nat → Nat → Bool
  | 0,_,_ => false
  | f + 1,k,j => ((ops[k]?).map fun o => (o.after.any fun e => Region.binds md e && Nat.beq e.on j) || (o.after.any fun e => Region.binds md e && depT md ops f e.on j)).getD false
def depB (md:Region.Mode) (ops:Array Oper) (k j:Nat):Bool:=depT md ops 4 k j
def Closed (md:Region.Mode) (ops:Array Oper) (listed:Array Bool):Prop:=∀ m o,ops[m]? = some o → listed.getD m false = true → ∀ e ∈ o.after,Region.binds md e = true → listed.getD e.on false = true
theorem set_mono {listed:Array Bool} {j m:Nat} (h:listed.getD m false = true):(listed.setIfInBounds j true).getD m false = true:=by
  by_cases hjm:j = m
  · subst hjm
    rcases Nat.lt_or_ge j listed.size with h' | h'
    · simp [h']
    · simp [Array.getElem?_eq_none h'] at h
  · rw [getD_set_ne false hjm]; exact h
theorem Closed.set {listed:Array Bool} {j:Nat} (hc:Closed md ops listed) (hj:j ∈ Region.ready md ops listed):Closed md ops (listed.setIfInBounds j true):=by
  obtain ⟨_,oj,hoj,hall⟩:=mem_ready.1 hj
  intro m o ho hm e he hb
  by_cases hjm:j = m
  · subst hjm
    rw [ho] at hoj; injection hoj with hoj; subst hoj
    exact set_mono (hall e he hb)
  · rw [getD_set_ne false hjm] at hm
    exact set_mono (hc m o ho hm e he hb)
theorem depT_listed {listed:Array Bool} (hc:Closed md ops listed) {j:Nat}:∀ (f k:Nat),depT md ops f k j = true → (∀ o,ops[k]? = some o → ∀ e ∈ o.after,Region.binds md e = true → listed.getD e.on false = true) → listed.getD j false = true
  | 0,_,h,_ => by cases h
  | f + 1,k,h,hl => by
    unfold depT at h
    cases ho:ops[k]? with
    | none => rw [ho] at h; cases h
    | some o =>
      rw [ho] at h
      simp only [Option.map_some,Option.getD_some,Bool.or_eq_true] at h
      rcases h with h | h
      · obtain ⟨e,he,hb⟩:=Array.any_eq_true'.1 h
        simp only [Bool.and_eq_true] at hb
        have:=hl o ho e he hb.1
        rwa [Nat.eq_of_beq_eq_true hb.2] at this
      · obtain ⟨e,he,hb⟩:=Array.any_eq_true'.1 h
        simp only [Bool.and_eq_true] at hb
        exact depT_listed hc f e.on hb.2 fun o' ho' => hc e.on o' ho' (hl o ho e he hb.1)
theorem depB_spec {k j:Nat} (h:depB md ops k j = true) {listed:Array Bool} (hc:Closed md ops listed) (hr:k ∈ Region.ready md ops listed):listed.getD j false = true:=by
  obtain ⟨_,o,ho,hall⟩:=mem_ready.1 hr
  exact depT_listed hc 4 k h fun o' ho' => by rw [ho] at ho'; injection ho' with ho'; subst ho'; exact hall
def wpG2 (P:Program) (md:Region.Mode) (ops:Array Oper) (Z:List Nat) (Q:Exit → Act → World → Prop):Nat → Array Bool → (World → Prop) → Act → World → Prop
  | 0,listed,_,a,w => Region.ready md ops listed = []∧Q .normal a w
  | fuel + 1,listed,S,a,w =>
    (Region.ready md ops listed = [] → Q .normal a w) ∧
    ∀ i ∈ Region.ready md ops listed,wpOp P ops Q i (fun a' w' => ∃ S':World → Prop,((Z.contains i = false → ∀ u,S' u → S u)∧S' w')∧wpG2 P md ops Z Q fuel (listed.setIfInBounds i true) S' a' w') a w
theorem wpAny_of_g2:∀ (fuel:Nat) (listed:Array Bool) (S:World → Prop) (a:Act) (w:World),wpG2 P md ops Z Q fuel listed S a w → wpAny P md ops Q fuel listed a w
  | 0,_,_,_,_,h => h
  | fuel + 1,_,_,_,_,h => ⟨h.1,fun i hi => wpOp_mono (fun a' w' ⟨_,_,h'⟩ => wpAny_of_g2 fuel _ _ a' w' h') (h.2 i hi)⟩
def SS (free:Bool) (S:World → Prop):World → Prop:=if free then fun _ => True else S
theorem SS.of {free:Bool} {w:World} (h:S w):SS free S w:=by cases free <;> simp [SS,h]
theorem wpG2_first {free:Bool} {i:Nat} {oi:Oper} {v:Value} (hi:ops[i]? = some oi) (hsel:∀ (j:Nat) (o:Oper) cs b,ops[j]? = some o → o.op ≠ .select cs b)
    (hQ:∀ c a w,Q (.panic c) (a.put oi.dst v) w → Q (.panic c) a w) :
    ∀ (fuel:Nat) (listed:Array Bool) (S:World → Prop) (a:Act) (w:World),Closed md ops listed → (free = false → ∀ k,Z.contains k = true → listed.getD k false = true ∨ depB md ops k i = true) →
      (∀ j oj,ops[j]? = some oj → j ≠ i → listed.getD j true = false → (∀ e ∈ oj.after,Region.binds md e = true → e.on ≠ i) → oi.apart ops oj = true) →
      i ∈ Region.ready md ops listed → YieldsIf P ops (SS free S) oi v a → S w →
      wpG2 P md ops Z Q fuel (listed.setIfInBounds i true) S (a.put oi.dst v) w → wpG2 P md ops Z Q (fuel + 1) listed S a w:=by
  intro fuel
  induction fuel with
  | zero =>
    intro listed S a w hcl hz _ hr hy hS H
    refine ⟨fun h => (by rw [h] at hr; cases hr),fun j hj => ?_⟩
    by_cases hji:j = i
    · subst hji; exact hy.wpOp hi (SS.of hS) ⟨S,⟨fun _ _ h => h,hS⟩,H⟩
    · have:=ready_mono hj hji
      rw [H.1] at this
      cases this
  | succ fuel ih =>
    intro listed S a w hcl hz hfree hr hy hS H
    refine ⟨fun h => (by rw [h] at hr; cases hr),fun j hj => ?_⟩
    by_cases hji:j = i
    · subst hji; exact hy.wpOp hi (SS.of hS) ⟨S,⟨fun _ _ h => h,hS⟩,H⟩
    · have h1:=H.2 j (ready_mono hj hji)
      obtain ⟨hjun,oj,hoj,hall⟩:=mem_ready.1 hj
      have hnot:∀ e ∈ oj.after,Region.binds md e = true → e.on ≠ i:=fun e he hb heq => by
        have h1:=hall e he hb
        have h0:=(mem_ready.1 hr).1
        rw [heq] at h1
        rcases Nat.lt_or_ge i listed.size with h' | h'
        · simp [h'] at h0 h1; rw [h0] at h1; cases h1
        · simp [Array.getElem?_eq_none h'] at h1
      have h2:=wpOp_putIf hoj (hfree j oj hoj hji hjun hnot) (fun cs b => hsel i oi cs b hi) (fun cs b => hsel j oj cs b hoj) hQ hy h1
      have hfree':∀ k ok,ops[k]? = some ok → k ≠ i → (listed.setIfInBounds j true).getD k true = false →
          (∀ e ∈ ok.after,Region.binds md e = true → e.on ≠ i) → oi.apart ops ok = true:=fun k ok hk hki hun hno => by
        refine hfree k ok hk hki ?_ hno
        by_cases hjk:j = k
        · subst hjk; exact hjun
        · rw [getD_set_ne true hjk] at hun; exact hun
      have hiu:listed.getD i false = false:=by
        have hil:=(mem_ready.1 hr).1
        rcases Nat.lt_or_ge i listed.size with h' | h'
        · simp [h'] at hil ⊢; exact hil
        · simp [Array.getElem?_eq_none h']
      have hju:listed.getD j false = false:=by
        rcases Nat.lt_or_ge j listed.size with h' | h'
        · simp [h'] at hjun ⊢; exact hjun
        · simp [Array.getElem?_eq_none h']
      have hzj:free = false → Z.contains j = false:=fun hf => by
        cases hc:Z.contains j with
        | false => rfl
        | true =>
          rcases hz hf j hc with h5 | h5
          · rw [hju] at h5; cases h5
          · have:=depB_spec h5 hcl hj
            rw [hiu] at this; cases this
      have hz':free = false → ∀ k,Z.contains k = true → (listed.setIfInBounds j true).getD k false = true ∨ depB md ops k i = true:=fun hf k hk => by
        rcases hz hf k hk with h5 | h5
        · left
          by_cases hjk:j = k
          · subst hjk; rw [hju] at h5; cases h5
          · rw [getD_set_ne false hjk]; exact h5
        · exact .inr h5
      refine wpOp_mono (fun a' w' h3 => ?_) h2
      obtain ⟨hy',S',hs,H'⟩:=h3
      have hs1:∀ u,SS free S' u → SS free S u:=by
        cases free with
        | true => exact fun _ h => h
        | false => exact hs.1 (hzj rfl)
      refine ⟨S',hs,ih (listed.setIfInBounds j true) S' a' w' (hcl.set hj) hz' hfree' (ready_mono hr (Ne.symm hji)) (yieldsIf_mono hy' hs1) hs.2 ?_⟩
      rw [Array.setIfInBounds_comm _ _ hji]
      exact H'
inductive Pl where
  | done
  | q (k:Nat) (r:Pl)
  | e (k:Nat) (r:Pl)
  | two (k₁:Nat) (r₁:Pl) (k₂:Nat) (r₂:Pl)
def Pl.len:Pl → Nat
  | .done => 0
  | .q _ r => r.len + 1
  | .e _ r => r.len + 1
  | .two _ r₁ _ _ => r₁.len + 1
def wpT (P:Program) (ops:Array Oper) (Z F:List Nat) (K:Act → World → Prop):Pl → (World → Prop) → Act → World → Prop
  | .done,_,a,w => K a w
  | .q k r,S,a,w => ∃ o v,ops[k]? = some o∧YieldsIf P ops (SS (F.contains k) S) o v a∧wpT P ops Z F K r S (a.put o.dst v) w
  | .e k r,S,a,w => ∃ o,ops[k]? = some o∧wpList P ops (Qn fun a' w' => ∃ S':World → Prop,((Z.contains k = false → ∀ u,S' u → S u)∧S' w')∧wpT P ops Z F K r S' a' w') [o] a w
  | .two k₁ r₁ k₂ r₂,S,a,w => (∃ o,ops[k₁]? = some o∧wpList P ops (Qn fun a' w' => ∃ S':World → Prop,((Z.contains k₁ = false → ∀ u,S' u → S u)∧S' w')∧wpT P ops Z F K r₁ S' a' w') [o] a w)∧(∃ o,ops[k₂]? = some o∧wpList P ops (Qn fun a' w' => ∃ S':World → Prop,((Z.contains k₂ = false → ∀ u,S' u → S u)∧S' w')∧wpT P ops Z F K r₂ S' a' w') [o] a w)
def planT (md:Region.Mode) (ops:Array Oper) (Z F:List Nat):Pl → Array Bool → Bool
  | .done,listed => (Region.ready md ops listed).isEmpty
  | .q k r,listed => (Region.ready md ops listed).contains k && Region.free md ops listed k && (F.contains k || Z.all fun z => listed.getD z false || depB md ops z k) && planT md ops Z F r (listed.setIfInBounds k true)
  | .e k r,listed => decide (Region.ready md ops listed = [k]) && planT md ops Z F r (listed.setIfInBounds k true)
  | .two k₁ r₁ k₂ r₂,listed => decide (Region.ready md ops listed = [k₁,k₂]) && Nat.beq r₁.len r₂.len && planT md ops Z F r₁ (listed.setIfInBounds k₁ true) && planT md ops Z F r₂ (listed.setIfInBounds k₂ true)
theorem closed_none (n:Nat):Closed md ops (Array.replicate n false):=fun m o _ h => by
  rcases Nat.lt_or_ge m n with h' | h'
  · simp [h'] at h
  · simp [h'] at h
theorem wpT_sound (hsel:Region.noSelect ops = true) {K:Act → World → Prop}:∀ (pl:Pl) (listed:Array Bool) (S:World → Prop) (a:Act) (w:World),
    Closed md ops listed → planT md ops Z F pl listed = true → S w → wpT P ops Z F K pl S a w → wpG2 P md ops Z (Qn K) pl.len listed S a w
  | .done,listed,S,a,w,hc,hB,hS,h => ⟨by simpa [planT] using hB,rfl,h⟩
  | .q k r,listed,S,a,w,hc,hB,hS,h => by
    simp only [planT,Bool.and_eq_true] at hB
    obtain ⟨o,v,ho,hy,h⟩:=h
    refine wpG2_first ho (Region.noSelect_spec hsel) (fun c a w h => absurd h.1 (by intro e; cases e)) r.len listed S a w hc (fun hf z hz => ?_) (Region.free_spec ho hB.1.1.2) (by simpa using hB.1.1.1) hy hS (wpT_sound hsel r _ S _ w (hc.set (by simpa using hB.1.1.1)) hB.2 hS h)
    rw [hf,Bool.false_or] at hB
    have:=List.all_eq_true.1 hB.1.2 z (by simpa using hz)
    simpa using this
  | .e k r,listed,S,a,w,hc,hB,hS,h => by
    simp only [planT,Bool.and_eq_true,decide_eq_true_eq] at hB
    obtain ⟨o,ho,h⟩:=h
    refine ⟨fun h0 => (by rw [hB.1] at h0; cases h0),fun i hi => ?_⟩
    have hi':=hi
    rw [hB.1] at hi
    obtain rfl:i = k:=by simpa using hi
    have h1:=wpOp_of_one (K':=K) ho h
    exact wpOp_mono (fun a' w' ⟨S',hs,h'⟩ => ⟨S',hs,wpT_sound hsel r _ S' a' w' (hc.set hi') hB.2 hs.2 h'⟩) h1
  | .two k₁ r₁ k₂ r₂,listed,S,a,w,hc,hB,hS,h => by
    simp only [planT,Bool.and_eq_true,decide_eq_true_eq] at hB
    obtain ⟨⟨⟨hB0,hBl⟩,hB1⟩,hB2⟩:=hB
    have hl:r₂.len = r₁.len:=(Nat.eq_of_beq_eq_true hBl).symm
    obtain ⟨⟨o₁,ho₁,h₁⟩,o₂,ho₂,h₂⟩:=h
    refine ⟨fun h0 => (by rw [hB0] at h0; cases h0),fun i hi => ?_⟩
    have hi':=hi
    rw [hB0] at hi
    have hi:i = k₁ ∨ i = k₂:=by simpa using hi
    rcases hi with rfl | rfl
    · have h1:=wpOp_of_one (K':=K) ho₁ h₁
      exact wpOp_mono (fun a' w' ⟨S',hs,h'⟩ => ⟨S',hs,wpT_sound hsel r₁ _ S' a' w' (hc.set hi') hB1 hs.2 h'⟩) h1
    · have h1:=wpOp_of_one (K':=K) ho₂ h₂
      refine wpOp_mono (fun a' w' ⟨S',hs,h'⟩ => ⟨S',hs,?_⟩) h1
      have:=wpT_sound hsel r₂ _ S' a' w' (hc.set hi') hB2 hs.2 h'
      rw [hl] at this
      exact this
end
section
variable {P:Program} {Q:Exit → Act → World → Prop} {N:Nat} {ρ:Nat → Value} {w:World} {S:World → Prop}
theorem t_region {id:Nat} {l:List Oper} {H:Hp} {L L':List Res} (Z F:List Nat) (pl:Pl) (hm:P.follows .mixedOrders = true) (hs:St H w L) (hk:∀ u,St H u L → St H u L')
    (hB:(Region.noSelect l.toArray && Nat.beq pl.len l.length && planT .any l.toArray Z F pl (Array.replicate l.length false)) = true)
    (h:∀ w,St H w L → wpT P l.toArray Z F (Q .normal) pl (fun u => St H u L') (en N ρ) w):(Code.region id l.toArray true).wp P Q (en N ρ) w:=by
  simp only [Bool.and_eq_true] at hB
  obtain ⟨⟨hB1,hB2⟩,hB3⟩:=hB
  have hlen:pl.len = l.length:=Nat.eq_of_beq_eq_true hB2
  refine Code.wp_mono (Q:=Qn (Q .normal)) (fun e a w hq => by rw [hq.1]; exact hq.2) (wp_region_any hm (wpAny_of_g2 (Z:=Z) _ _ (fun u => St H u L') _ _ ?_))
  have:=wpT_sound (md:=.any) (Z:=Z) hB1 pl _ _ (en N ρ) _ (closed_none _) hB3 (hk _ (hs.drawn (w.drawn + 1))) (h _ (hs.drawn (w.drawn + 1)))
  rw [hlen] at this
  simpa using this
variable {ops:Array Oper} {Z F:List Nat} {K:Act → World → Prop} {r r₁ r₂:Pl} {k d ty:Nat} {pos:String} {aft:Array Edge} {op:Op} {v:Value}
theorem t_nil (h:K (en N ρ) w):wpT P ops Z F K .done S (en N ρ) w:=h
theorem t_st (hf:F.contains k = false) (ho:ops[k]? = some ⟨some d,op,ty,pos,aft,none⟩) (hr:∀ w,S w → Ex P N ρ w op ty v w) (h:wpT P ops Z F K r S (en N (up ρ d v)) w):wpT P ops Z F K (.q k r) S (en N ρ) w:=by
  refine ⟨_,v,ho,.inl ⟨by simp [Region.wanted],fun u hu => hr u (by rw [hf] at hu; exact hu) _ _ _ _⟩,?_⟩
  rw [en_put]; exact h
theorem t_eff {o:Oper} (ho:ops[k]? = some o) (h:wpList P ops (Qn fun a' w' => ∃ S':World → Prop,((Z.contains k = false → ∀ u,S' u → S u)∧S' w')∧wpT P ops Z F K r S' a' w') [o] (en N ρ) w):wpT P ops Z F K (.e k r) S (en N ρ) w:=⟨o,ho,h⟩
theorem t_on {S':World → Prop} (hs:∀ u,S' u → S u) (hw:S' w) (h:wpT P ops Z F K r S' (en N ρ) w) :
    wpList P ops (Qn fun a' w' => ∃ S':World → Prop,((Z.contains k = false → ∀ u,S' u → S u)∧S' w')∧wpT P ops Z F K r S' a' w') [] (en N ρ) w:=⟨rfl,S',⟨fun _ => hs,hw⟩,h⟩
theorem t_new {S':World → Prop} (hz:Z.contains k = true) (hw:S' w) (h:wpT P ops Z F K r S' (en N ρ) w) :
    wpList P ops (Qn fun a' w' => ∃ S':World → Prop,((Z.contains k = false → ∀ u,S' u → S u)∧S' w')∧wpT P ops Z F K r S' a' w') [] (en N ρ) w:=⟨rfl,S',⟨fun e => (by rw [hz] at e; cases e),hw⟩,h⟩
end
end Go.FM

set_option linter.unusedVariables false
set_option linter.unusedSimpArgs false
namespace Go.FM
open Go
section
variable {P:Program} {ops:Array Oper} {Q:Exit → Act → World → Prop} {md:Region.Mode} {S S' W:World → Prop} {Z F:List Nat}
def depC (md:Region.Mode) (ops:Array Oper) (k j:Nat):Bool:=depT md ops 12 k j
theorem depC_spec {k j:Nat} (h:depC md ops k j = true) {listed:Array Bool} (hc:Closed md ops listed) (hr:k ∈ Region.ready md ops listed):listed.getD j false = true:=by
  obtain ⟨_,o,ho,hall⟩:=mem_ready.1 hr
  exact depT_listed hc 12 k h fun o' ho' => by rw [ho] at ho'; injection ho' with ho'; subst ho'; exact hall
def wpG3 (W:World → Prop) (P:Program) (md:Region.Mode) (ops:Array Oper) (Z:List Nat) (Q:Exit → Act → World → Prop):Nat → Array Bool → (World → Prop) → Act → World → Prop
  | 0,listed,_,a,w => Region.ready md ops listed = []∧Q .normal a w
  | fuel + 1,listed,S,a,w =>
    (Region.ready md ops listed = [] → Q .normal a w) ∧
    ∀ i ∈ Region.ready md ops listed,wpOp P ops Q i (fun a' w' => ∃ S':World → Prop,((Z.contains i = false → ∀ u,S' u → S u)∧(∀ u,S' u → W u)∧S' w')∧wpG3 W P md ops Z Q fuel (listed.setIfInBounds i true) S' a' w') a w
theorem wpAny_of_g3:∀ (fuel:Nat) (listed:Array Bool) (S:World → Prop) (a:Act) (w:World),wpG3 W P md ops Z Q fuel listed S a w → wpAny P md ops Q fuel listed a w
  | 0,_,_,_,_,h => h
  | fuel + 1,_,_,_,_,h => ⟨h.1,fun i hi => wpOp_mono (fun a' w' ⟨_,_,h'⟩ => wpAny_of_g3 fuel _ _ a' w' h') (h.2 i hi)⟩
def SW (W:World → Prop) (free:Bool) (S:World → Prop):World → Prop:=if free then W else S
theorem SW.of {W:World → Prop} {free:Bool} {w:World} (h:S w) (k:∀ u,S u → W u):SW W free S w:=by cases free; exact h; exact k w h
theorem wpG3_first {free:Bool} {i:Nat} {oi:Oper} {v:Value} (hi:ops[i]? = some oi) (hsel:∀ (j:Nat) (o:Oper) cs b,ops[j]? = some o → o.op ≠ .select cs b)
    (hQ:∀ c a w,Q (.panic c) (a.put oi.dst v) w → Q (.panic c) a w) :
    ∀ (fuel:Nat) (listed:Array Bool) (S:World → Prop) (a:Act) (w:World),Closed md ops listed → (∀ u,S u → W u) → (free = false → ∀ k,Z.contains k = true → listed.getD k false = true ∨ depC md ops k i = true) →
      (∀ j oj,ops[j]? = some oj → j ≠ i → listed.getD j true = false → (∀ e ∈ oj.after,Region.binds md e = true → e.on ≠ i) → oi.apart ops oj = true) →
      i ∈ Region.ready md ops listed → YieldsIf P ops (SW W free S) oi v a → S w →
      wpG3 W P md ops Z Q fuel (listed.setIfInBounds i true) S (a.put oi.dst v) w → wpG3 W P md ops Z Q (fuel + 1) listed S a w:=by
  intro fuel
  induction fuel with
  | zero =>
    intro listed S a w hcl hSW hz _ hr hy hS H
    refine ⟨fun h => (by rw [h] at hr; cases hr),fun j hj => ?_⟩
    by_cases hji:j = i
    · subst hji; exact hy.wpOp hi (SW.of hS hSW) ⟨S,⟨fun _ _ h => h,hSW,hS⟩,H⟩
    · have:=ready_mono hj hji
      rw [H.1] at this
      cases this
  | succ fuel ih =>
    intro listed S a w hcl hSW hz hfree hr hy hS H
    refine ⟨fun h => (by rw [h] at hr; cases hr),fun j hj => ?_⟩
    by_cases hji:j = i
    · subst hji; exact hy.wpOp hi (SW.of hS hSW) ⟨S,⟨fun _ _ h => h,hSW,hS⟩,H⟩
    · have h1:=H.2 j (ready_mono hj hji)
      obtain ⟨hjun,oj,hoj,hall⟩:=mem_ready.1 hj
      have hnot:∀ e ∈ oj.after,Region.binds md e = true → e.on ≠ i:=fun e he hb heq => by
        have h1:=hall e he hb
        have h0:=(mem_ready.1 hr).1
        rw [heq] at h1
        rcases Nat.lt_or_ge i listed.size with h' | h'
        · simp [h'] at h0 h1; rw [h0] at h1; cases h1
        · simp [Array.getElem?_eq_none h'] at h1
      have h2:=wpOp_putIf hoj (hfree j oj hoj hji hjun hnot) (fun cs b => hsel i oi cs b hi) (fun cs b => hsel j oj cs b hoj) hQ hy h1
      have hfree':∀ k ok,ops[k]? = some ok → k ≠ i → (listed.setIfInBounds j true).getD k true = false →
          (∀ e ∈ ok.after,Region.binds md e = true → e.on ≠ i) → oi.apart ops ok = true:=fun k ok hk hki hun hno => by
        refine hfree k ok hk hki ?_ hno
        by_cases hjk:j = k
        · subst hjk; exact hjun
        · rw [getD_set_ne true hjk] at hun; exact hun
      have hiu:listed.getD i false = false:=by
        have hil:=(mem_ready.1 hr).1
        rcases Nat.lt_or_ge i listed.size with h' | h'
        · simp [h'] at hil ⊢; exact hil
        · simp [Array.getElem?_eq_none h']
      have hju:listed.getD j false = false:=by
        rcases Nat.lt_or_ge j listed.size with h' | h'
        · simp [h'] at hjun ⊢; exact hjun
        · simp [Array.getElem?_eq_none h']
      have hzj:free = false → Z.contains j = false:=fun hf => by
        cases hc:Z.contains j with
        | false => rfl
        | true =>
          rcases hz hf j hc with h5 | h5
          · rw [hju] at h5; cases h5
          · have:=depC_spec h5 hcl hj
            rw [hiu] at this; cases this
      have hz':free = false → ∀ k,Z.contains k = true → (listed.setIfInBounds j true).getD k false = true ∨ depC md ops k i = true:=fun hf k hk => by
        rcases hz hf k hk with h5 | h5
        · left
          by_cases hjk:j = k
          · subst hjk; rw [hju] at h5; cases h5
          · rw [getD_set_ne false hjk]; exact h5
        · exact .inr h5
      refine wpOp_mono (fun a' w' h3 => ?_) h2
      obtain ⟨hy',S',hs,H'⟩:=h3
      have hs1:∀ u,SW W free S' u → SW W free S u:=by
        cases free with
        | true => exact fun _ h => h
        | false => exact hs.1 (hzj rfl)
      refine ⟨S',hs,ih (listed.setIfInBounds j true) S' a' w' (hcl.set hj) hs.2.1 hz' hfree' (ready_mono hr (Ne.symm hji)) (yieldsIf_mono hy' hs1) hs.2.2 ?_⟩
      rw [Array.setIfInBounds_comm _ _ hji]
      exact H'
def wpU (W:World → Prop) (P:Program) (ops:Array Oper) (Z F:List Nat) (K:Act → World → Prop):Pl → (World → Prop) → Act → World → Prop
  | .done,_,a,w => K a w
  | .q k r,S,a,w => ∃ o v,ops[k]? = some o∧YieldsIf P ops (SW W (F.contains k) S) o v a∧wpU W P ops Z F K r S (a.put o.dst v) w
  | .e k r,S,a,w => ∃ o,ops[k]? = some o∧wpList P ops (Qn fun a' w' => ∃ S':World → Prop,((Z.contains k = false → ∀ u,S' u → S u)∧(∀ u,S' u → W u)∧S' w')∧wpU W P ops Z F K r S' a' w') [o] a w
  | .two k₁ r₁ k₂ r₂,S,a,w => (∃ o,ops[k₁]? = some o∧wpList P ops (Qn fun a' w' => ∃ S':World → Prop,((Z.contains k₁ = false → ∀ u,S' u → S u)∧(∀ u,S' u → W u)∧S' w')∧wpU W P ops Z F K r₁ S' a' w') [o] a w)∧(∃ o,ops[k₂]? = some o∧wpList P ops (Qn fun a' w' => ∃ S':World → Prop,((Z.contains k₂ = false → ∀ u,S' u → S u)∧(∀ u,S' u → W u)∧S' w')∧wpU W P ops Z F K r₂ S' a' w') [o] a w)
def planU (md:Region.Mode) (ops:Array Oper) (Z F:List Nat):Pl → Array Bool → Bool
  | .done,listed => (Region.ready md ops listed).isEmpty
  | .q k r,listed => (Region.ready md ops listed).contains k && Region.free md ops listed k && (F.contains k || Z.all fun z => listed.getD z false || depC md ops z k) && planU md ops Z F r (listed.setIfInBounds k true)
  | .e k r,listed => decide (Region.ready md ops listed = [k]) && planU md ops Z F r (listed.setIfInBounds k true)
  | .two k₁ r₁ k₂ r₂,listed => decide (Region.ready md ops listed = [k₁,k₂]) && Nat.beq r₁.len r₂.len && planU md ops Z F r₁ (listed.setIfInBounds k₁ true) && planU md ops Z F r₂ (listed.setIfInBounds k₂ true)
theorem wpU_sound (hsel:Region.noSelect ops = true) {K:Act → World → Prop}:∀ (pl:Pl) (listed:Array Bool) (S:World → Prop) (a:Act) (w:World),
    Closed md ops listed → planU md ops Z F pl listed = true → (∀ u,S u → W u) → S w → wpU W P ops Z F K pl S a w → wpG3 W P md ops Z (Qn K) pl.len listed S a w
  | .done,listed,S,a,w,hc,hB,hSW,hS,h => ⟨by simpa [planU] using hB,rfl,h⟩
  | .q k r,listed,S,a,w,hc,hB,hSW,hS,h => by
    simp only [planU,Bool.and_eq_true] at hB
    obtain ⟨o,v,ho,hy,h⟩:=h
    refine wpG3_first ho (Region.noSelect_spec hsel) (fun c a w h => absurd h.1 (by intro e; cases e)) r.len listed S a w hc hSW (fun hf z hz => ?_) (Region.free_spec ho hB.1.1.2) (by simpa using hB.1.1.1) hy hS (wpU_sound hsel r _ S _ w (hc.set (by simpa using hB.1.1.1)) hB.2 hSW hS h)
    rw [hf,Bool.false_or] at hB
    have:=List.all_eq_true.1 hB.1.2 z (by simpa using hz)
    simpa using this
  | .e k r,listed,S,a,w,hc,hB,hSW,hS,h => by
    simp only [planU,Bool.and_eq_true,decide_eq_true_eq] at hB
    obtain ⟨o,ho,h⟩:=h
    refine ⟨fun h0 => (by rw [hB.1] at h0; cases h0),fun i hi => ?_⟩
    have hi':=hi
    rw [hB.1] at hi
    obtain rfl:i = k:=by simpa using hi
    have h1:=wpOp_of_one (K':=K) ho h
    exact wpOp_mono (fun a' w' ⟨S',hs,h'⟩ => ⟨S',hs,wpU_sound hsel r _ S' a' w' (hc.set hi') hB.2 hs.2.1 hs.2.2 h'⟩) h1
  | .two k₁ r₁ k₂ r₂,listed,S,a,w,hc,hB,hSW,hS,h => by
    simp only [planU,Bool.and_eq_true,decide_eq_true_eq] at hB
    obtain ⟨⟨⟨hB0,hBl⟩,hB1⟩,hB2⟩:=hB
    have hl:r₂.len = r₁.len:=(Nat.eq_of_beq_eq_true hBl).symm
    obtain ⟨⟨o₁,ho₁,h₁⟩,o₂,ho₂,h₂⟩:=h
    refine ⟨fun h0 => (by rw [hB0] at h0; cases h0),fun i hi => ?_⟩
    have hi':=hi
    rw [hB0] at hi
    have hi:i = k₁ ∨ i = k₂:=by simpa using hi
    rcases hi with rfl | rfl
    · have h1:=wpOp_of_one (K':=K) ho₁ h₁
      exact wpOp_mono (fun a' w' ⟨S',hs,h'⟩ => ⟨S',hs,wpU_sound hsel r₁ _ S' a' w' (hc.set hi') hB1 hs.2.1 hs.2.2 h'⟩) h1
    · have h1:=wpOp_of_one (K':=K) ho₂ h₂
      refine wpOp_mono (fun a' w' ⟨S',hs,h'⟩ => ⟨S',hs,?_⟩) h1
      have:=wpU_sound hsel r₂ _ S' a' w' (hc.set hi') hB2 hs.2.1 hs.2.2 h'
      rw [hl] at this
      exact this
end
section
variable {P:Program} {Q:Exit → Act → World → Prop} {N:Nat} {ρ:Nat → Value} {w:World} {S:World → Prop}
theorem u_region {id:Nat} {l:List Oper} {H:Hp} {L L':List Res} (Lw:List Res) (Z F:List Nat) (pl:Pl) (hm:P.follows .mixedOrders = true) (hs:St H w L) (hk:∀ u,St H u L → St H u L') (hkw:∀ u,St H u L' → St H u Lw)
    (hB:(Region.noSelect l.toArray && Nat.beq pl.len l.length && planU .any l.toArray Z F pl (Array.replicate l.length false)) = true)
    (h:∀ w,St H w L → wpU (fun u => St H u Lw) P l.toArray Z F (Q .normal) pl (fun u => St H u L') (en N ρ) w):(Code.region id l.toArray true).wp P Q (en N ρ) w:=by
  simp only [Bool.and_eq_true] at hB
  obtain ⟨⟨hB1,hB2⟩,hB3⟩:=hB
  have hlen:pl.len = l.length:=Nat.eq_of_beq_eq_true hB2
  refine Code.wp_mono (Q:=Qn (Q .normal)) (fun e a w hq => by rw [hq.1]; exact hq.2) (wp_region_any hm (wpAny_of_g3 (W:=fun u => St H u Lw) (Z:=Z) _ _ (fun u => St H u L') _ _ ?_))
  have:=wpU_sound (W:=fun u => St H u Lw) (md:=.any) (Z:=Z) hB1 pl _ _ (en N ρ) _ (closed_none _) hB3 hkw (hk _ (hs.drawn (w.drawn + 1))) (h _ (hs.drawn (w.drawn + 1)))
  rw [hlen] at this
  simpa using this
variable {ops:Array Oper} {W:World → Prop} {Z F:List Nat} {K:Act → World → Prop} {r r₁ r₂:Pl} {k d ty:Nat} {pos:String} {aft:Array Edge} {op:Op} {v:Value}
theorem u_nil (h:K (en N ρ) w):wpU W P ops Z F K .done S (en N ρ) w:=h
theorem u_st (hf:F.contains k = false) (ho:ops[k]? = some ⟨some d,op,ty,pos,aft,none⟩) (hr:∀ w,S w → Ex P N ρ w op ty v w) (h:wpU W P ops Z F K r S (en N (up ρ d v)) w):wpU W P ops Z F K (.q k r) S (en N ρ) w:=by
  refine ⟨_,v,ho,.inl ⟨by simp [Region.wanted],fun u hu => hr u (by rw [hf] at hu; exact hu) _ _ _ _⟩,?_⟩
  rw [en_put]; exact h
theorem u_fr (ho:ops[k]? = some ⟨some d,op,ty,pos,aft,none⟩) (hf:F.contains k = true) (hr:∀ w,W w → Ex P N ρ w op ty v w) (h:wpU W P ops Z F K r S (en N (up ρ d v)) w):wpU W P ops Z F K (.q k r) S (en N ρ) w:=by
  refine ⟨_,v,ho,.inl ⟨by simp [Region.wanted],fun u hu => hr u (by rw [hf] at hu; exact hu) _ _ _ _⟩,?_⟩
  rw [en_put]; exact h
theorem u_eff {o:Oper} (ho:ops[k]? = some o) (h:wpList P ops (Qn fun a' w' => ∃ S':World → Prop,((Z.contains k = false → ∀ u,S' u → S u)∧(∀ u,S' u → W u)∧S' w')∧wpU W P ops Z F K r S' a' w') [o] (en N ρ) w):wpU W P ops Z F K (.e k r) S (en N ρ) w:=⟨o,ho,h⟩
theorem u_on {S':World → Prop} (hs:∀ u,S' u → S u) (hW:∀ u,S' u → W u) (hw:S' w) (h:wpU W P ops Z F K r S' (en N ρ) w) :
    wpList P ops (Qn fun a' w' => ∃ S':World → Prop,((Z.contains k = false → ∀ u,S' u → S u)∧(∀ u,S' u → W u)∧S' w')∧wpU W P ops Z F K r S' a' w') [] (en N ρ) w:=⟨rfl,S',⟨fun _ => hs,hW,hw⟩,h⟩
theorem u_new {S':World → Prop} (hz:Z.contains k = true) (hW:∀ u,S' u → W u) (hw:S' w) (h:wpU W P ops Z F K r S' (en N ρ) w) :
    wpList P ops (Qn fun a' w' => ∃ S':World → Prop,((Z.contains k = false → ∀ u,S' u → S u)∧(∀ u,S' u → W u)∧S' w')∧wpU W P ops Z F K r S' a' w') [] (en N ρ) w:=⟨rfl,S',⟨fun e => (by rw [hz] at e; cases e),hW,hw⟩,h⟩
end
end Go.FM

set_option linter.unusedVariables false
set_option linter.unusedSimpArgs false
namespace Go.Proofs.YtnikcgcbkdeeeaaDoor
open Go Go.FM Go.Proofs
attribute [local irreducible] wpList wpQuiet Code.wp Calls
def tab:List Nat:=[0,1,28,2,29,14,24,3,30,22,20,15,25,17,4,8,31,27,13,23,21,19,16,7,26,12,18,6,11,5,10,9]
def Tab (H:Hp):Prop:=∃ cs E fr,H.blk 0 = some (.cells cs E fr)∧∀ i,i < 32 → cs[i]? = some (.int .u8 ((tab.getD i 0:Nat):Int))
theorem Tab.mono {H H':Hp} (h:Tab H) (hl:H.le H'):Tab H':=let ⟨cs,E,fr,h1,h2⟩:=h; ⟨cs,E,fr,hl.blk _ _ h1,h2⟩
theorem Tab.cell {H:Hp} {w:World} {L:List Res} (h:Tab H) (hs:St H w L) (i:Nat) (hi:i < 32):w.cell? ⟨0,i,none⟩ = some (.int .u8 ((tab.getD i 0:Nat):Int)):=let ⟨cs,E,fr,h1,h2⟩:=h; cell_at (hs.fz _ _ h1) (h2 i hi)
theorem tab_pow:∀ j,j < 16 → 2 ^ j * 125613361 % 4294967296 / 2 ^ 27 < 32∧tab.getD (2 ^ j * 125613361 % 4294967296 / 2 ^ 27) 0 = j:=by decide +kernel
theorem tz_tab (s:Nat) (b_s:s < 65536) (h0:s ≠ 0):(s &&& ((0 - (s:Int)) % 65536).toNat) * 125613361 % 4294967296 / 2 ^ 27 < 32∧tab.getD ((s &&& ((0 - (s:Int)) % 65536).toNat) * 125613361 % 4294967296 / 2 ^ 27) 0 = low 16 s:=by
  have e:((0 - (s:Int)) % 65536).toNat = 2 ^ 16 - s:=by omega
  rw [e,land_neg 16 s h0 b_s]
  exact tab_pow _ (low_lt 16 s h0 b_s)
theorem tz_cell {H:Hp} {w:World} {L:List Res} (h:Tab H) (hs:St H w L) {e m:Nat} (he:e < 32) (hm:tab.getD e 0 = m):w.cell? ⟨0,0 + ((e:Nat):Int).toNat * 1,none⟩ = some (.int .u8 ((m:Nat):Int)):=by
  subst hm
  have:=h.cell hs e he
  rwa [show 0 + ((e:Nat):Int).toNat * 1 = e by omega]
set_option maxHeartbeats 8000000 in
theorem tz16_spec {H:Hp} {w:World} {L:List Res} (hs:St H w L) (htab:Tab H) (s:Nat) (b_s:s < 65536) (h0:s ≠ 0):Calls Tryd.prog 49 #[.int .u16 ((s:Nat):Int)] w (fun e w' => e = .returned (.int .i64 ((low 16 s:Nat):Int))∧St H w' L):=by
 refine enter (args:=[.int .u16 ((s:Nat):Int)]) (N:=15) Tryd.func49 rfl rfl rfl ?_
 refine c_seq (c_region (st (v:=.int .i64 0) (x_assign .const) ?_))
 refine c_nil (n_then (c_seq (c_seq (c_region (st (v:=.int .u16 ((s:Nat):Int)) (x_move (.tmp rfl rfl)) ?_)))))
 refine st (v:=.bool (decide ((((s:Nat):Int):Int) = 0))) (x_eql (k:=.u16) (a:=((s:Nat):Int)) (b:=0) (.tmp rfl rfl) .const) ?_
 refine c_nil (n_then ?_)
 rcases Bool.eq_false_or_eq_true (decide ((((s:Nat):Int):Int) = 0)) with hc1 | hc1
 have hp1:(((s:Nat):Int):Int) = 0:=of_decide_eq_true hc1
 refine c_cond_t (t:=true) (.tmp rfl (cVb hc1)) rfl ?_
 refine c_seq (c_region (st (v:=.int .i64 16) (x_assign .const) ?_))
 refine c_nil (n_then (c_ret (r_then (leave_ret (res_one (v:=.int .i64 16) rfl (.mk rfl rfl)) ?_))))
 exact absurd hp1 (by omega)
 have hp1:¬ ((((s:Nat):Int):Int) = 0):=of_decide_eq_false hc1
 refine c_cond_f (t:=false) (.tmp rfl (cVb hc1)) rfl ?_
 refine c_skip (n_then (c_seq (c_region (st (v:=.int .u16 ((s:Nat):Int)) (x_move (.tmp rfl rfl)) ?_))))
 refine st (v:=.int .u16 ((s:Nat):Int)) (x_move (.tmp rfl rfl)) ?_
 refine st (v:=.int .u16 ((((0 - ((s:Nat):Int)) % 65536).toNat:Nat):Int)) (x_neg (k:=.u16) (a:=((s:Nat):Int)) (.tmp rfl rfl) (wrapU _ rfl _)) ?_
 have hb2:(s &&& (((0 - ((s:Nat):Int)) % 65536).toNat)) < 65536:=Nat.lt_of_le_of_lt Nat.and_le_left b_s
 refine st (v:=.int .u16 (((s &&& (((0 - ((s:Nat):Int)) % 65536).toNat)):Nat):Int)) (x_and (k:=.u16) (m:=s) (n:=(((0 - ((s:Nat):Int)) % 65536).toNat)) rfl (.tmp rfl rfl) (.tmp rfl rfl) (show _ < 2 ^ 16 from b_s) (show _ < 2 ^ 16 from (by omega))) ?_
 have hb3:(s &&& (((0 - ((s:Nat):Int)) % 65536).toNat)) < 4294967296:=Nat.lt_of_lt_of_le hb2 (by decide)
 refine st (v:=.int .u32 (((s &&& (((0 - ((s:Nat):Int)) % 65536).toNat)):Nat):Int)) (x_conv (k:=.u16) (a:=(((s &&& (((0 - ((s:Nat):Int)) % 65536).toNat)):Nat):Int)) Tryd.underlying45 Tryd.underlying95 (.tmp rfl rfl) (wU rfl rfl hb3)) ?_
 refine st (v:=.int .u32 (((((s &&& (((0 - ((s:Nat):Int)) % 65536).toNat)) * 125613361) % 4294967296):Nat):Int)) (x_mul (k:=.u32) (a:=(((s &&& (((0 - ((s:Nat):Int)) % 65536).toNat)):Nat):Int)) (b:=125613361) (.tmp rfl rfl) .const (wMulN (m:=(s &&& (((0 - ((s:Nat):Int)) % 65536).toNat))) (n:=125613361) _ rfl rfl rfl)) ?_
 have hb4:((((s &&& (((0 - ((s:Nat):Int)) % 65536).toNat)) * 125613361) % 4294967296) / 2 ^ 27) < 4294967296:=Nat.lt_of_le_of_lt (Nat.div_le_self _ _) (Nat.mod_lt _ (by decide))
 refine st (v:=.int .u32 ((((((s &&& (((0 - ((s:Nat):Int)) % 65536).toNat)) * 125613361) % 4294967296) / 2 ^ 27):Nat):Int)) (x_shr (k:=.u32) (m:=(((s &&& (((0 - ((s:Nat):Int)) % 65536).toNat)) * 125613361) % 4294967296)) (b:=27) rfl (.tmp rfl rfl) .const (by omega) (show _ < 2 ^ 32 from (Nat.mod_lt _ (by decide)))) ?_
 have htl:=tz_tab s b_s h0
 have hix:=htl.1
 refine st (v:=.pointer (some ⟨0,0 + ((((((s &&& (((0 - ((s:Nat):Int)) % 65536).toNat)) * 125613361) % 4294967296) / 2 ^ 27):Nat):Int).toNat * 1,none⟩)) (ix94 .global (i:=((((((s &&& (((0 - ((s:Nat):Int)) % 65536).toNat)) * 125613361) % 4294967296) / 2 ^ 27):Nat):Int)) (.tmp rfl rfl) (by omega) (by omega)) ?_
 have hlo:=low_lt 16 s h0 b_s
 refine st (v:=.int .u8 (((low 16 s):Nat):Int)) (ld5 (.tmp rfl rfl) (tz_cell htab hs hix htl.2)) ?_
 refine st (v:=.int .i64 (((low 16 s):Nat):Int)) (x_conv (k:=.u8) (a:=(((low 16 s):Nat):Int)) Tryd.underlying5 Tryd.underlying3 (.tmp rfl rfl) (w64 (by omega) (by omega))) ?_
 refine st (v:=.int .i64 (((low 16 s):Nat):Int)) (x_assign (.tmp rfl rfl)) ?_
 refine c_nil (n_then (c_ret (leave_ret (res_one (v:=.int .i64 (((low 16 s):Nat):Int)) rfl (.mk rfl rfl)) ?_)))
 exact ⟨rfl,hs⟩
set_option maxHeartbeats 8000000 in
theorem least_spec {H:Hp} {w:World} {L:List Res} (hs:St H w L) (htab:Tab H) (s:Nat) (b_s:s < 65536):Calls Tryd.prog 39 #[.int .u16 ((s:Nat):Int)] w (fun e w' => e = .returned (.int .i64 (least s))∧St H w' L):=by
 refine enter (args:=[.int .u16 ((s:Nat):Int)]) (N:=7) Tryd.func39 rfl rfl rfl ?_
 refine c_seq (c_region (st (v:=.int .i64 0) (x_assign .const) ?_))
 refine c_nil (n_then (c_seq (c_seq (c_region (st (v:=.int .u16 ((s:Nat):Int)) (x_move (.tmp rfl rfl)) ?_)))))
 refine st (v:=.bool (decide ((((s:Nat):Int):Int) = 0))) (x_eql (k:=.u16) (a:=((s:Nat):Int)) (b:=0) (.tmp rfl rfl) .const) ?_
 refine c_nil (n_then ?_)
 rcases Bool.eq_false_or_eq_true (decide ((((s:Nat):Int):Int) = 0)) with hc1 | hc1
 have hp1:(((s:Nat):Int):Int) = 0:=of_decide_eq_true hc1
 refine c_cond_t (t:=true) (.tmp rfl (cVb hc1)) rfl ?_
 refine c_seq (c_region (st (v:=.int .i64 (-1)) (x_assign .const) ?_))
 refine c_nil (n_then (c_ret (r_then (leave_ret (res_one (v:=.int .i64 (-1)) rfl (.mk rfl rfl)) ?_))))
 exact ⟨by simp only [least]; first | rw [if_pos (by omega)] | rw [if_neg (by omega)],hs⟩
 have hp1:¬ ((((s:Nat):Int):Int) = 0):=of_decide_eq_false hc1
 refine c_cond_f (t:=false) (.tmp rfl (cVb hc1)) rfl ?_
 refine c_skip (n_then (c_seq (c_region (st (v:=.int .u16 ((s:Nat):Int)) (x_move (.tmp rfl rfl)) ?_))))
 refine st_c cb49 .func (evs1 (.tmp rfl rfl)) (tz16_spec hs htab s b_s (by omega)) ?_
 rintro e w2 ⟨rfl,hs3⟩
 refine ⟨_,rfl,?_⟩
 refine st (v:=.int .i64 ((low 16 s:Nat):Int)) (x_assign (.tmp rfl rfl)) ?_
 refine c_nil (n_then (c_ret (leave_ret (res_one (v:=.int .i64 ((low 16 s:Nat):Int)) rfl (.mk rfl rfl)) ?_)))
 exact ⟨by simp only [least]; first | rw [if_pos (by omega)] | rw [if_neg (by omega)],hs3⟩
end Go.Proofs.YtnikcgcbkdeeeaaDoor

set_option linter.unusedVariables false
set_option linter.unusedSimpArgs false
namespace Go.Proofs.YtnikcgcbkdeeeaaDoor
open Go Go.FM Go.Proofs Go.ChangeShapes Go.WideShapes Go.ChangeAt Go.RowKit
theorem own:ownKnob Tryd.prog.godebug = none:=by kernel_rfl
theorem laidOut:laidOutB Tryd.prog = true:=by kernel_rfl
theorem of_laid {W:World} (h:laidMetH Tryd.prog [("math/bits.deBruijn32tab",Rows.laid_math_bits_deBruijn32tab)] W):Tab (Hp.of W) :=
  laid_bytes tab (by kernel_rfl) (by kernel_rfl) Tryd.underlying94 Tryd.underlying5 (by kernel_rfl) (by rfl) h
theorem door_met (os:Os) (args:Array Value):laidMetH Tryd.prog [("math/bits.deBruijn32tab",Rows.laid_math_bits_deBruijn32tab)] ((World.doorLaid Tryd.prog 400 os).forCall (fun _ _ => 0) ⟨#[],args,[]⟩).memory :=
  laidMetH_of_parts3 (fuel:=8) (laidMet_of_run' 8 (by kernel_rfl) (by kernel_rfl)) (by kernel_rfl) (by kernel_rfl)
theorem opn30:Opn Tryd.prog 30 kBs:=opn_bytes Tryd.underlying30 Tryd.underlying5 (by kernel_rfl) (by kernel_rfl)
theorem opn5:Opn Tryd.prog 5 (kU .u8 256 1 (by decide)):=opn_nat Tryd.underlying5 rfl rfl
theorem opn45:Opn Tryd.prog 45 (kU .u16 65536 2 (by decide)):=opn_nat Tryd.underlying45 rfl rfl
theorem opn69:Opn Tryd.prog 69 kSend:=fun {Hh enc W fuel cs x} h hw => by
  obtain ⟨hl,hp⟩:=opn_parts Tryd.underlying69 h hw
  rw [show Tryd.prog.cellsOf 69 = 2 from by kernel_rfl] at hl
  match cs,hl with
  | [v0,v1],_ =>
    obtain ⟨a0,r0⟩:=hp 0 _ rfl opn5
    have r0:(kU .u8 256 1 (by decide)).rep _ a0 (([v0,v1].drop 0).take (Tryd.prog.cellsOf 5)):=r0
    rw [show Tryd.prog.cellsOf 5 = 1 from by kernel_rfl] at r0
    have r0:(kU .u8 256 1 (by decide)).rep _ a0 [v0]:=r0
    obtain ⟨a1,r1⟩:=hp 1 _ rfl opn30
    have r1:kBs.rep _ a1 (([v0,v1].drop 1).take (Tryd.prog.cellsOf 30)):=r1
    rw [show Tryd.prog.cellsOf 30 = 1 from by kernel_rfl] at r1
    have r1:kBs.rep _ a1 [v1]:=r1
    obtain ⟨e0,b_1⟩:=r0
    try simp only [List.cons.injEq,and_true] at e0
    first | subst e0 | cases e0
    obtain ⟨A_101,n_102,c_103,e1,hy_104⟩:=r1
    try simp only [List.cons.injEq,and_true] at e1
    first | subst e1 | cases e1
    exact ⟨GSend.mk a0 a1,A_101,n_102,c_103,rfl,b_1,hy_104⟩
theorem opn65:Opn Tryd.prog 65 (kSl kSend):=opn_sl Tryd.underlying65 (by kernel_rfl) (by kernel_rfl) opn69
theorem opn67:Opn Tryd.prog 67 kRun:=fun {Hh enc W fuel cs x} h hw => by
  obtain ⟨hl,hp⟩:=opn_parts Tryd.underlying67 h hw
  rw [show Tryd.prog.cellsOf 67 = 4 from by kernel_rfl] at hl
  match cs,hl with
  | [v0,v1,v2,v3],_ =>
    obtain ⟨a0,r0⟩:=hp 0 _ rfl opn45
    have r0:(kU .u16 65536 2 (by decide)).rep _ a0 (([v0,v1,v2,v3].drop 0).take (Tryd.prog.cellsOf 45)):=r0
    rw [show Tryd.prog.cellsOf 45 = 1 from by kernel_rfl] at r0
    have r0:(kU .u16 65536 2 (by decide)).rep _ a0 [v0]:=r0
    obtain ⟨a1,r1⟩:=hp 1 _ rfl opn65
    have r1:(kSl kSend).rep _ a1 (([v0,v1,v2,v3].drop 1).take (Tryd.prog.cellsOf 65)):=r1
    rw [show Tryd.prog.cellsOf 65 = 1 from by kernel_rfl] at r1
    have r1:(kSl kSend).rep _ a1 [v1]:=r1
    obtain ⟨a2,r2⟩:=hp 2 _ rfl opn30
    have r2:kBs.rep _ a2 (([v0,v1,v2,v3].drop 2).take (Tryd.prog.cellsOf 30)):=r2
    rw [show Tryd.prog.cellsOf 30 = 1 from by kernel_rfl] at r2
    have r2:kBs.rep _ a2 [v2]:=r2
    obtain ⟨a3,r3⟩:=hp 3 _ rfl opn30
    have r3:kBs.rep _ a3 (([v0,v1,v2,v3].drop 3).take (Tryd.prog.cellsOf 30)):=r3
    rw [show Tryd.prog.cellsOf 30 = 1 from by kernel_rfl] at r3
    have r3:kBs.rep _ a3 [v3]:=r3
    obtain ⟨e0,b_1⟩:=r0
    try simp only [List.cons.injEq,and_true] at e0
    first | subst e0 | cases e0
    obtain ⟨A_101,n_102,c_103,e1,hl_104⟩:=r1
    try simp only [List.cons.injEq,and_true] at e1
    first | subst e1 | cases e1
    obtain ⟨A_201,n_202,c_203,e2,hy_204⟩:=r2
    try simp only [List.cons.injEq,and_true] at e2
    first | subst e2 | cases e2
    obtain ⟨A_301,n_302,c_303,e3,hy_304⟩:=r3
    try simp only [List.cons.injEq,and_true] at e3
    first | subst e3 | cases e3
    exact ⟨GRun.mk a0 a1 a2 a3,A_101,n_102,c_103,A_201,n_202,c_203,A_301,n_302,c_303,rfl,b_1,hl_104,hy_204,hy_304⟩
theorem opn38:Opn Tryd.prog 38 (kSl kRun):=opn_sl Tryd.underlying38 (by kernel_rfl) (by kernel_rfl) opn67
end Go.Proofs.YtnikcgcbkdeeeaaDoor

set_option linter.unusedVariables false
set_option linter.unusedSimpArgs false
namespace Go.FM
def sEnd (s:GState):Int:=s.Floor + (s.Items.length:Int)
def vcmp (a b:GViewID):Int:=cmpV a.N a.P b.N b.P
theorem vcmp_zero (a b:GViewID):vcmp a b = 0 ↔ a = b:=by
  unfold vcmp; rw [cmpV_zero]; cases a; cases b; simp
def beats (t s:GState) (k i:Nat):Bool:=decide (t.V = s.V) && (decide (sEnd s < sEnd t) || (decide (sEnd t = sEnd s) && decide (k < i)))
def bestTo (l:List GState) (s:GState) (i:Nat):Nat → Bool
  | 0 => decide (0 < s.V.N)
  | k + 1 => bestTo l s i k && !(match l[k]? with | some t => beats t s k i | none => false)
def insS (s:GState):List GState → List GState
  | [] => [s]
  | x::r => if 0 < vcmp x.V s.V then s::x::r else x::insS s r
def joinTo (l:List GState):Nat → List GState
  | 0 => []
  | i + 1 => match l[i]? with
    | some s => if bestTo l s i l.length then insS s (joinTo l i) else joinTo l i
    | none => joinTo l i
def joinS (l:List GState):List GState:=joinTo l l.length
theorem insS_mem (s y:GState):∀ (a:List GState),y ∈ insS s a ↔ y = s ∨ y ∈ a
  | [] => by simp [insS]
  | x::a => by
    simp only [insS]
    split
    · simp
    · simp only [List.mem_cons,insS_mem s y a]
      constructor
      · rintro (h | h | h) <;> simp [h]
      · rintro (h | h | h) <;> simp [h]
theorem joinTo_mem (l:List GState):∀ (i:Nat) (y:GState),y ∈ joinTo l i → y ∈ l∧0 < y.V.N
  | 0,y,h => by simp [joinTo] at h
  | i + 1,y,h => by
    simp only [joinTo] at h
    split at h
    · rename_i s hs
      split at h
      · rename_i hb
        rcases (insS_mem s y _).1 h with rfl | h
        · refine ⟨List.mem_of_getElem? hs,?_⟩
          have key:∀ k,bestTo l y i k = true → 0 < y.V.N:=by
            intro k
            induction k with
            | zero => intro h; simpa [bestTo] using h
            | succ k ih => intro h; simp only [bestTo,Bool.and_eq_true] at h; exact ih h.1
          exact key _ hb
        · exact joinTo_mem l i y h
      · exact joinTo_mem l i y h
    · exact joinTo_mem l i y h
theorem insS_length (s:GState):∀ (a:List GState),(insS s a).length = a.length + 1
  | [] => rfl
  | x::a => by
    simp only [insS]; split
    · simp
    · simp [insS_length s a]
theorem joinTo_length (l:List GState):∀ (i:Nat),(joinTo l i).length ≤ i
  | 0 => by simp [joinTo]
  | i + 1 => by
    have:=joinTo_length l i
    simp only [joinTo]
    split
    · split
      · rw [insS_length]; omega
      · omega
    · omega
def idxP {α:Type} (p:α → Bool):List α → Int
  | [] => -1
  | x::r => if p x then 0 else if idxP p r = -1 then -1 else idxP p r + 1
theorem idxP_ge {α:Type} (p:α → Bool):∀ (l:List α),-1 ≤ idxP p l∧idxP p l < l.length
  | [] => by simp [idxP]
  | x::r => by
    have:=idxP_ge p r
    simp only [idxP,List.length_cons]
    split
    · omega
    · split <;> omega
theorem idxP_at {α:Type} (p:α → Bool):∀ (l:List α) (i:Nat) (x:α),l[i]? = some x → p x = true → (∀ (j:Nat) (y:α),j < i → l[j]? = some y → p y = false) → idxP p l = i
  | [],i,x,h,_,_ => by simp at h
  | y::r,0,x,h,hp,_ => by simp at h; subst h; simp [idxP,hp]
  | y::r,i + 1,x,h,hp,ha => by
    have h0:=ha 0 y (by omega) rfl
    have:=idxP_at p r i x (by simpa using h) hp (fun j z hj hz => ha (j + 1) z (by omega) (by simpa using hz))
    simp only [idxP,h0,this]
    rw [if_neg (by simp),if_neg (by omega)]; omega
theorem idxP_none {α:Type} (p:α → Bool):∀ (l:List α),(∀ (j:Nat) (y:α),l[j]? = some y → p y = false) → idxP p l = -1
  | [],_ => rfl
  | y::r,ha => by
    have h0:=ha 0 y rfl
    have:=idxP_none p r (fun j z hz => ha (j + 1) z (by simpa using hz))
    simp [idxP,h0,this]
theorem idxP_find {α:Type} (p:α → Bool):∀ (l:List α),(idxP p l = -1∧l.find? p = none) ∨ ∃ i x,idxP p l = (i:Nat)∧l[i]? = some x∧l.find? p = some x
  | [] => .inl ⟨rfl,rfl⟩
  | y::r => by
    by_cases h:p y = true
    · exact .inr ⟨0,y,by simp [idxP,h],rfl,by simp [h]⟩
    · have h':p y = false:=by simpa using h
      rcases idxP_find p r with ⟨h1,h2⟩ | ⟨i,x,h1,h2,h3⟩
      · exact .inl ⟨by simp [idxP,h',h1],by simp [h',h2]⟩
      · refine .inr ⟨i + 1,x,?_,by simpa using h2,by simp [h',h3]⟩
        simp only [idxP,h',h1]
        rw [if_neg (by simp),if_neg (by omega)]; omega
end Go.FM
namespace Go.FM
theorem before_next {α:Type} {p:α → Bool} {l:List α} {i:Nat} {x:α} (ha:∀ (j:Nat) (y:α),j < i → l[j]? = some y → p y = false) (hx:l[i]? = some x) (hp:p x = false):∀ (j:Nat) (y:α),j < i + 1 → l[j]? = some y → p y = false:=by
  intro j y hj hy
  by_cases h:j < i
  · exact ha j y h hy
  · obtain rfl:j = i:=by omega
    rw [hx] at hy; injection hy with hy; subst hy; exact hp
end Go.FM
namespace Go.FM
theorem item_ne_from {x y:GItem} (h:x.From ≠ y.From):x ≠ y:=fun e => h (by rw [e])
theorem next_all {α:Type} {p:α → Bool} {l:List α} {i:Nat} {x:α} (ha:∀ (j:Nat) (y:α),j < i → l[j]? = some y → p y = true) (hx:l[i]? = some x) (hp:p x = true):∀ (j:Nat) (y:α),j < i + 1 → l[j]? = some y → p y = true:=by
  intro j y hj hy
  by_cases h:j < i
  · exact ha j y h hy
  · obtain rfl:j = i:=by omega
    rw [hx] at hy; injection hy with hy; subst hy; exact hp
end Go.FM
namespace Go.FM
end Go.FM

set_option linter.unusedVariables false
set_option linter.unusedSimpArgs false
namespace Go.FM
open Go
abbrev Acc:=List (List (List Nat))
def longStep (a l:List GItem):List GItem:=if a.length < l.length then l else a
def longTo (del:List (List GItem)) (i:Nat):List GItem:=(del.take i).foldl longStep []
def longS (del:List (List GItem)):List GItem:=longTo del del.length
theorem take_next {α:Type} {l:List α} {i:Nat} {x:α} (h:l[i]? = some x):l.take (i + 1) = l.take i ++ [x]:=by
  rw [List.take_add_one,h]; rfl
section
variable {del:List (List GItem)} {i j k:Nat} {l s s0:List GItem} {x e:GItem} {acc:Acc}
theorem longTo_next (h:del[i]? = some l):longTo del (i + 1) = longStep (longTo del i) l:=by
  unfold longTo; rw [take_next h,List.foldl_append]; rfl
theorem longStep_len:(longStep s l).length = max s.length l.length:=by
  unfold longStep; split <;> omega
theorem longTo_ge:∀ (i j:Nat) (l:List GItem),j < i → del[j]? = some l → l.length ≤ (longTo del i).length
  | 0,j,l,h,_ => absurd h (Nat.not_lt_zero _)
  | i + 1,j,l,h,hl => by
    cases hi:del[i]? with
    | none =>
      have h1:=List.getElem?_eq_none_iff.1 hi
      have h2:=(List.getElem?_eq_some_iff.1 hl).1
      have:longTo del (i + 1) = longTo del i:=by unfold longTo; rw [List.take_of_length_le (by omega),List.take_of_length_le h1]
      rw [this]
      exact longTo_ge i j l (by omega) hl
    | some m =>
      rw [longTo_next hi,longStep_len]
      rcases Nat.lt_succ_iff_lt_or_eq.1 h with h | rfl
      · have:=longTo_ge i j l h hl; omega
      · rw [hi] at hl; cases hl; omega
theorem long_ge (hl:del[j]? = some l):l.length ≤ (longS del).length:=longTo_ge _ j l (List.getElem?_eq_some_iff.1 hl).1 hl
def cntI (s:List GItem) (k:Int):Nat:=s.countP (fun y => decide (y.From = k))
def okAt (acc:Acc) (s:List GItem) (j:Nat):Bool:=match s[j]? with
  | none => true
  | some x => decide (0 ≤ x.From∧x.From < (acc.length:Int)) && decide ((acc.getD x.From.toNat [])[cntI (s.take j) x.From]? = some x.M)
def preS (del:List (List GItem)) (s:List GItem):Bool:=del.all (fun l => decide (l = s.take l.length))
def okAll (acc:Acc) (s:List GItem):Bool:=(List.range s.length).all (okAt acc s)
def totS (acc:Acc) (del:List (List GItem)):List GItem × Bool:=if preS del (longS del) = true∧okAll acc (longS del) = true then (longS del,true) else ([],false)
theorem totS_yes (h1:preS del (longS del) = true) (h2:okAll acc (longS del) = true):totS acc del = (longS del,true):=if_pos ⟨h1,h2⟩
theorem totS_no1 (h1:preS del (longS del) = false):totS acc del = ([],false):=if_neg (fun h => by rw [h1] at h; exact absurd h.1 (by decide))
theorem totS_no2 (h2:okAll acc (longS del) = false):totS acc del = ([],false):=if_neg (fun h => by rw [h2] at h; exact absurd h.2 (by decide))
theorem preS_no (hl:del[j]? = some l) (h:l ≠ s.take l.length):preS del s = false:=by
  cases hp:preS del s with
  | false => rfl
  | true => exact absurd (of_decide_eq_true (List.all_eq_true.1 hp l (List.mem_of_getElem? hl))) h
theorem preS_end (ha:∀ (j:Nat) (y:List GItem),j < i → del[j]? = some y → decide (y = s.take y.length) = true) (hi:del.length ≤ i):preS del s = true:=by
  refine List.all_eq_true.2 fun y hy => ?_
  obtain ⟨j,hj,rfl⟩:=List.mem_iff_getElem.1 hy
  exact ha j _ (by omega) (List.getElem?_eq_getElem hj)
theorem okAll_no (hj:j < s.length) (h:okAt acc s j = false):okAll acc s = false:=by
  cases hp:okAll acc s with
  | false => rfl
  | true => have:=List.all_eq_true.1 hp j (List.mem_range.2 hj); rw [h] at this; cases this
theorem okAll_end (ha:∀ j,j < i → okAt acc s j = true) (hi:s.length ≤ i):okAll acc s = true :=
  List.all_eq_true.2 fun j hj => ha j (by have:=List.mem_range.1 hj; omega)
theorem okAt_from (hx:s[j]? = some x) (h:¬ (0 ≤ x.From∧x.From < (acc.length:Int))):okAt acc s j = false:=by
  unfold okAt; rw [hx]; simp [h]
theorem okAt_is {a:List (List Nat)} {c:Nat} (hx:s[j]? = some x) (h0:0 ≤ x.From) (ha:acc[x.From.toNat]? = some a) (hc:cntI (s.take j) x.From = c):okAt acc s j = decide (a[c]? = some x.M):=by
  have h1:=(List.getElem?_eq_some_iff.1 ha).1
  unfold okAt; rw [hx]
  simp only []
  rw [decide_eq_true (show 0 ≤ x.From∧x.From < (acc.length:Int) by omega),Bool.true_and,List.getD_eq_getElem?_getD,ha,hc]; rfl
def cntL (n:Nat) (s:List GItem):List Int:=(List.range n).map (fun (k:Nat) => ((cntI s (k:Int):Nat):Int))
theorem cntL_nil (n:Nat):cntL n [] = List.replicate n 0:=by
  apply List.ext_getElem?
  intro k
  unfold cntL
  rw [List.getElem?_map,List.getElem?_replicate]
  by_cases h:k < n
  · rw [List.getElem?_range h,if_pos h]; rfl
  · rw [List.getElem?_eq_none (by simp; omega),if_neg h]; rfl
theorem cntL_len (n:Nat) (s:List GItem):(cntL n s).length = n:=by unfold cntL; simp
theorem cntL_at {n m:Nat} {z:Int} (h:(cntL n s)[m]? = some z):m < n∧z = ((cntI s (m:Int):Nat):Int):=by
  have hm:=(List.getElem?_eq_some_iff.1 h).1
  rw [cntL_len] at hm
  unfold cntL at h
  rw [List.getElem?_map,List.getElem?_range hm] at h
  exact ⟨hm,(Option.some.inj h).symm⟩
theorem cntI_snoc (s:List GItem) (x:GItem) (k:Int):cntI (s ++ [x]) k = cntI s k + (if x.From = k then 1 else 0):=by
  unfold cntI; rw [List.countP_append,List.countP_singleton]; simp
theorem cntL_next {n m:Nat} (hx:x.From = (m:Int)) (hm:m < n):cntL n (s ++ [x]) = (cntL n s).set m (((cntI s (m:Int):Nat):Int) + 1):=by
  apply List.ext_getElem?
  intro k
  rw [List.getElem?_set,cntL_len]
  unfold cntL
  rw [List.getElem?_map]
  by_cases h:k < n
  · rw [List.getElem?_range h]
    by_cases hk:m = k
    · subst hk
      rw [if_pos rfl,if_pos h]
      show some ((cntI (s ++ [x]) (m:Int):Nat):Int) = _
      rw [cntI_snoc,if_pos hx]; simp
    · rw [if_neg hk,List.getElem?_map,List.getElem?_range h]
      show some ((cntI (s ++ [x]) (k:Int):Nat):Int) = some ((cntI s (k:Int):Nat):Int)
      rw [cntI_snoc,if_neg (by omega)]; rfl
  · rw [List.getElem?_eq_none (l:=List.range n) (by simp; omega)]
    rw [if_neg (by omega),List.getElem?_map,List.getElem?_eq_none (by simp; omega)]; rfl
theorem okAt_n {a:List (List Nat)} {v c:Nat} (hx:s[j]? = some x) (hf:x.From = (v:Int)) (ha:acc[v]? = some a) (hc:c = cntI (s.take j) (v:Int)):okAt acc s j = decide (a[c]? = some x.M) :=
  okAt_is hx (by omega) (by rw [hf,Int.toNat_natCast]; exact ha) (by rw [hf]; exact hc.symm)
theorem okAt_out {a:List (List Nat)} {v c:Nat} (hx:s[j]? = some x) (hf:x.From = (v:Int)) (ha:acc[v]? = some a) (hc:c = cntI (s.take j) (v:Int)) (h:a.length ≤ c):okAt acc s j = false:=by
  rw [okAt_n hx hf ha hc]; exact decide_eq_false (by rw [List.getElem?_eq_none h]; simp)
theorem okAt_ne {a:List (List Nat)} {v c:Nat} {m:List Nat} (hx:s[j]? = some x) (hf:x.From = (v:Int)) (ha:acc[v]? = some a) (hc:c = cntI (s.take j) (v:Int)) (hm:a[c]? = some m) (h:m ≠ x.M):okAt acc s j = false:=by
  rw [okAt_n hx hf ha hc]; exact decide_eq_false (by rw [hm]; intro e; exact h (Option.some.inj e))
theorem okAt_yes {a:List (List Nat)} {v c:Nat} {m:List Nat} (hx:s[j]? = some x) (hf:x.From = (v:Int)) (ha:acc[v]? = some a) (hc:c = cntI (s.take j) (v:Int)) (hm:a[c]? = some m) (h:m = x.M):okAt acc s j = true:=by
  rw [okAt_n hx hf ha hc]; exact decide_eq_true (by rw [hm,h])
def eqF {α β:Type} (f:α → β → Bool) (a:List α) (b:List β):Bool:=decide (a.length = b.length) && (List.zip a b).all (fun p => f p.1 p.2)
theorem eqF_len {α β:Type} {f:α → β → Bool} {a:List α} {b:List β} (h:a.length ≠ b.length):eqF f a b = false:=by unfold eqF; rw [decide_eq_false h]; rfl
theorem eqF_no {α β:Type} {f:α → β → Bool} {a:List α} {b:List β} {i:Nat} {x:α} {y:β} (hx:a[i]? = some x) (hy:b[i]? = some y) (h:f x y = false):eqF f a b = false:=by
  cases he:eqF f a b with
  | false => rfl
  | true =>
    unfold eqF at he
    rw [Bool.and_eq_true] at he
    have:=List.all_eq_true.1 he.2 (x,y) (List.mem_of_getElem? (i:=i) (by rw [List.getElem?_zip_eq_some]; exact ⟨hx,hy⟩))
    simp only [] at this
    rw [h] at this; cases this
theorem eqF_yes {α β:Type} {f:α → β → Bool} {a:List α} {b:List β} {i:Nat} (hl:a.length = b.length) (ha:∀ j x y,j < i → a[j]? = some x → b[j]? = some y → f x y = true) (hi:a.length ≤ i):eqF f a b = true:=by
  unfold eqF
  rw [decide_eq_true hl,Bool.true_and]
  refine List.all_eq_true.2 fun p hp => ?_
  obtain ⟨j,hj⟩:=List.getElem?_of_mem hp
  obtain ⟨x,y⟩:=p
  rw [List.getElem?_zip_eq_some] at hj
  exact ha j x y (by have:=(List.getElem?_eq_some_iff.1 hj.1).1; omega) hj.1 hj.2
theorem eqF_next {α β:Type} {f:α → β → Bool} {a:List α} {b:List β} {i:Nat} {x:α} {y:β} (ha:∀ j x y,j < i → a[j]? = some x → b[j]? = some y → f x y = true) (hx:a[i]? = some x) (hy:b[i]? = some y) (h:f x y = true):∀ j x y,j < i + 1 → a[j]? = some x → b[j]? = some y → f x y = true:=by
  intro j x' y' hj hx' hy'
  rcases Nat.lt_succ_iff_lt_or_eq.1 hj with hj | rfl
  · exact ha j x' y' hj hx' hy'
  · rw [hx] at hx'; rw [hy] at hy'; cases hx'; cases hy'; exact h
theorem eqF_dec {α:Type} [DecidableEq α] {a b:List α}:eqF (fun x y => decide (x = y)) a b = decide (a = b):=by
  by_cases h:a = b
  · subst h
    rw [decide_eq_true rfl]
    exact eqF_yes rfl (fun j x y _ hx hy => by rw [hx] at hy; cases hy; exact decide_eq_true rfl) (Nat.le_refl _)
  · rw [decide_eq_false h]
    cases he:eqF (fun x y => decide (x = y)) a b with
    | false => rfl
    | true =>
      exfalso
      apply h
      unfold eqF at he
      rw [Bool.and_eq_true] at he
      have hl:=of_decide_eq_true he.1
      apply List.ext_getElem?
      intro j
      by_cases hj:j < a.length
      · rw [List.getElem?_eq_getElem hj,List.getElem?_eq_getElem (by omega)]
        have:=List.all_eq_true.1 he.2 (a[j],b[j]) (List.mem_of_getElem? (i:=j) (by rw [List.getElem?_zip_eq_some]; exact ⟨List.getElem?_eq_getElem hj,List.getElem?_eq_getElem (by omega)⟩))
        rw [show a[j] = b[j] from of_decide_eq_true this]
      · rw [List.getElem?_eq_none (by omega),List.getElem?_eq_none (by omega)]
theorem okto_next (ha:∀ j,j < k → okAt acc s j = true) (h:okAt acc s k = true):∀ j,j < k + 1 → okAt acc s j = true:=by
  intro j hj
  rcases Nat.lt_succ_iff_lt_or_eq.1 hj with hj | rfl
  · exact ha j hj
  · exact h
theorem item_eq2 {a b:GItem} (h1:a.From = b.From) (h2:a.M = b.M):a = b:=by cases a; cases b; simp_all
end
end Go.FM

set_option linter.unusedVariables false
set_option linter.unusedSimpArgs false
namespace Go.FM
open Go
section
variable {del d:List (List GItem)} {i j k:Nat} {l s:List GItem} {x e e1 e2:GItem} {acc:Acc}
end
end Go.FM

set_option linter.unusedVariables false
set_option linter.unusedSimpArgs false
namespace Go.FM
open Go
def vid0:GViewID:=⟨0,0⟩
def view0:GView:=⟨vid0,0⟩
def viewsT (l:List GEvent):List GView:=(l.filter (fun e => decide (e.Kind = 1))).map (·.View)
def itemT (node:Int) (kind:Nat) (e:GEvent):GItem:=⟨if kind = 2 then node else e.From,e.M⟩
def itemsT (l:List GEvent) (node:Int) (kind:Nat) (v:GViewID):List GItem:=(l.filter (fun e => decide (e.Kind = kind) && decide (e.View.ID = v))).map (itemT node kind)
def beginsT (a b:List GItem):Bool:=decide (a.length ≤ b.length) && decide (a = b.take a.length)
def hasT (l:List GEvent) (v:GViewID):Option GView:=(viewsT l).find? (fun w => decide (w.ID = v))
def nextOf:List GView → GViewID → GViewID
  | a::b::r,v => if a.ID = v then b.ID else nextOf (b::r) v
  | _,_ => vid0
def nextT (l:List GEvent) (v:GViewID):GViewID:=nextOf (viewsT l) v
def fromT (l:List GItem) (j:Int):List GItem:=l.filter (fun x => decide (x.From = j))
structure AS where
  on:Bool
  cur:GView
  recv:Nat
  safe:Nat
def aStep (node:Int) (s:AS) (e:GEvent):Option AS :=
  if e.Kind = 1 then (if e.View.ID.N = 0 ∨ has e.View.Set node = false ∨ (s.on = true∧cmpV e.View.ID.N e.View.ID.P s.cur.ID.N s.cur.ID.P ≤ 0) then none else some ⟨true,e.View,0,0⟩)
  else if e.Kind = 2 ∨ e.Kind = 3 ∨ e.Kind = 4 then
    (if s.on = false ∨ e.View ≠ s.cur ∨ (if e.Kind = 3 then s.recv + 1 else s.recv) < (if e.Kind = 4 then s.safe + 1 else s.safe) then none
     else some ⟨s.on,s.cur,if e.Kind = 3 then s.recv + 1 else s.recv,if e.Kind = 4 then s.safe + 1 else s.safe⟩)
  else none
def aRun (node:Int) (l:List GEvent):Option AS:=l.foldl (fun o e => o.bind (fun s => aStep node s e)) (some ⟨false,view0,0,0⟩)
def aloneT (node:Int) (l:List GEvent):Bool:=(aRun node l).isSome && (viewsT l).all (fun v => beginsT (itemsT l node 4 v.ID) (itemsT l node 3 v.ID))
def seeT (tr:List (List GEvent)) (i:Nat) (v:GView) (j:Nat):Bool :=
  let recv:=itemsT (tr.getD i []) i 3 v.ID
  let safe:=(itemsT (tr.getD i []) i 4 v.ID).length
  let other:=itemsT (tr.getD j []) j 3 v.ID
  let mine:=fromT recv j
  match hasT (tr.getD j []) v.ID with
  | none => !(decide (0 < mine.length) || (decide (0 < safe) && has v.Set j))
  | some w => !(decide (w ≠ v) || (!beginsT recv other && !beginsT other recv) || !beginsT mine (itemsT (tr.getD j []) j 2 v.ID)) && !(decide (other.length < safe) && has v.Set j)
      && !(decide (0 < (nextT (tr.getD i []) v.ID).N) && decide (nextT (tr.getD i []) v.ID = nextT (tr.getD j []) v.ID) && decide (recv.length ≠ other.length))
def lateT (tr:List (List GEvent)) (i:Nat) (v:GView) (j:Nat):Bool:=!(decide (0 < (itemsT (tr.getD i []) i 4 v.ID).length) && has v.Set j)
def inviewT (tr:List (List GEvent)) (i:Nat) (v:GView):Bool :=
  (itemsT (tr.getD i []) i 3 v.ID).all (fun x => decide (0 ≤ x.From∧x.From < (tr.length:Int))) && (List.range tr.length).all (seeT tr i v) && (List.range 16).all (fun j => decide (j < tr.length) || lateT tr i v j)
def refV (tr:List (List GEvent)):Bool :=
  (List.range tr.length).all (fun i => aloneT i (tr.getD i [])) && (List.range tr.length).all (fun i => (viewsT (tr.getD i [])).all (inviewT tr i))
section
variable {l:List GEvent} {i k:Nat} {e:GEvent} {node:Int} {kind:Nat} {v:GViewID} {a b s:List GItem} {x:GItem} {vs:List GView} {w:GView} {st:AS}
theorem aS_1bad (hk:e.Kind = 1) (h:(e.View.ID.N = 0 ∨ has e.View.Set node = false) ∨ (st.on = true∧cmpV e.View.ID.N e.View.ID.P st.cur.ID.N st.cur.ID.P ≤ 0)):aStep node st e = none:=by
  unfold aStep; rw [if_pos hk,if_pos (by rcases h with (h | h) | h; exact .inl h; exact .inr (.inl h); exact .inr (.inr h))]
theorem aS_1ok (hk:e.Kind = 1) (h:(¬ e.View.ID.N = 0∧has e.View.Set node = true)∧(st.on = true → 0 < cmpV e.View.ID.N e.View.ID.P st.cur.ID.N st.cur.ID.P)):aStep node st e = some ⟨true,e.View,0,0⟩:=by
  unfold aStep; rw [if_pos hk,if_neg]
  rintro (h1 | h1 | ⟨h1,h2⟩)
  · exact h.1.1 h1
  · rw [h.1.2] at h1; cases h1
  · have:=h.2 h1; omega
theorem aS_bad {r f:Nat} (hk:e.Kind = 2 ∨ e.Kind = 3 ∨ e.Kind = 4) (hr:r = if e.Kind = 3 then st.recv + 1 else st.recv) (hf:f = if e.Kind = 4 then st.safe + 1 else st.safe) (h:(st.on = false ∨ ¬ e.View = st.cur) ∨ r < f):aStep node st e = none:=by
  unfold aStep
  rw [if_neg (by omega),if_pos hk,← hr,← hf,if_pos (by rcases h with (h | h) | h; exact .inl h; exact .inr (.inl h); exact .inr (.inr h))]
theorem aS_ok {r f:Nat} (hk:e.Kind = 2 ∨ e.Kind = 3 ∨ e.Kind = 4) (hr:r = if e.Kind = 3 then st.recv + 1 else st.recv) (hf:f = if e.Kind = 4 then st.safe + 1 else st.safe) (h:(st.on = true∧e.View = st.cur)∧f ≤ r):aStep node st e = some ⟨st.on,st.cur,r,f⟩:=by
  unfold aStep
  rw [if_neg (by omega),if_pos hk,← hr,← hf,if_neg]
  rintro (h1 | h1 | h1)
  · rw [h.1.1] at h1; cases h1
  · exact h1 h.1.2
  · omega
theorem aS_none (h1:¬ e.Kind = 1) (h2:¬ e.Kind = 2) (h3:¬ e.Kind = 3) (h4:¬ e.Kind = 4):aStep node st e = none:=by
  unfold aStep; rw [if_neg h1,if_neg (by omega)]
theorem foldl_none:∀ (l:List GEvent),l.foldl (fun o e => o.bind (fun s => aStep node s e)) none = none
  | [] => rfl
  | _::l => foldl_none l
theorem aRun_none (h:aRun node (l.take k) = none):aRun node l = none:=by
  unfold aRun at h ⊢
  have e:l = l.take k ++ l.drop k:=(List.take_append_drop _ _).symm
  rw [e,List.foldl_append,h]
  exact foldl_none _
theorem alone_no1 (h:aRun node (l.take k) = none):aloneT node l = false:=by unfold aloneT; rw [aRun_none h]; rfl
theorem alone_no2 {j:Nat} (h:(viewsT l)[j]? = some w) (hb:beginsT (itemsT l node 4 w.ID) (itemsT l node 3 w.ID) = false):aloneT node l = false:=by
  unfold aloneT
  rw [Bool.and_eq_false_iff]
  exact .inr (List.all_eq_false.2 ⟨w,List.mem_of_getElem? h,by rw [hb]; decide⟩)
end
end Go.FM
