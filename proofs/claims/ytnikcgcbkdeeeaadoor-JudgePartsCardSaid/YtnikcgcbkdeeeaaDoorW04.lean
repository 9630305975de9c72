/- Steps of the proofs over the functions of this seat, printed by a program (gen.py) and checked by Lean. -/
import Derived.Test.YtnikcgcbkdeeeaaDoorW03
import Derived.Test.YtnikcgcbkdeeeaaDoorW00
import Derived.Lib.AppendZerosOnto
import Derived.Lib.Overlaps
import Derived.Test.YtnikcgcbkdeeeaaDoorW01
import Derived.Calls
import Derived.Test.YtnikcgcbkdeeeaaDoorW02
set_option linter.unusedVariables false
set_option linter.unusedSimpArgs false
namespace Go.FM
open Go
def KnO (log:List GView) (g:GG):Prop:=∀ v ∈ log,v.ID.P ≠ 0 → VLe v.ID ((g.m 0).other v.ID.P.toNat).2
def PhA (k:Nat) (T:GView) (g:GG):Prop:=∃ B log,Inv B log g∧1 ≤ B∧B ≤ 1000 + k * 6000∧((k = 1 → g.bag = []∧KnO log g)∧(2 ≤ k → Settled log T g))∧(1 ≤ k → g.bag = [])
def PhB (k i:Nat) (T:GView) (g:GG):Prop:=∃ B log,Inv B log g∧1 ≤ B∧B ≤ 1000 + k * 6000 + i∧((k = 0 → ∀ j,j < i → j ≠ 0 → KnB log g j)∧(k = 1 → KnO log g)∧(2 ≤ k → Settled log T g))
def PhC (k i:Nat) (T:GView) (g:GG):Prop:=∃ B log,Inv B log g∧1 ≤ B∧B ≤ 1100 + k * 6000 + i∧((k = 0 → ∀ j,j < g.n → j ≠ 0 → KnB log g j)∧(k = 1 → i = 0 → KnO log g)∧(k = 1 → i ≠ 0 → ∃ T p,Tgt log T p g)∧(2 ≤ k → Settled log T g))
def PhD (k c:Nat) (T:GView) (g:GG):Prop:=∃ B log,Inv B log g∧1 ≤ B∧B ≤ 1200 + k * 6000 + c∧((k = 0 → ∀ j,j < g.n → j ≠ 0 → KnB log g j)∧(k = 1 → ∃ T p,Tgt log T p g)∧(2 ≤ k → Settled log T g))
def GOk (g:GG):Prop:=∃ B log,Inv B log g∧1 ≤ B∧B ≤ 800000
section
variable {B n i j k c:Nat} {log log':List GView} {g g':GG} {T:GView} {o:GOut} {rest:List GOut}
theorem Settled.same (hs:Settled log T g) (hn:g'.n = g.n) (hm:∀ j,g'.m j = g.m j):Settled log T g' :=
  ⟨hs.tin,by rw [hn]; exact hs.set,hs.top,fun i hi => by rw [hm]; exact hs.all i (by rw [← hn]; exact hi)⟩
theorem PhA.start (h:Inv B log g) (hB:1 ≤ B) (hB2:B ≤ 1000):PhA 0 T g:=⟨B,log,h,hB,by omega,⟨fun k => (by omega),fun k => (by omega)⟩,fun k => (by omega)⟩
theorem PhA.beats (h:PhA k T g):PhB k 0 T g:=by
  obtain ⟨B,log,h1,h2,h3,⟨h4,h5⟩,h6⟩:=h
  exact ⟨B,log,h1,h2,by omega,fun _ j hj => absurd hj (Nat.not_lt_zero _),fun e => (h4 e).2,h5⟩
theorem PhB.beat (h:PhB k i T g) (hi:i < g.n):PhB k (i + 1) T (g.beatAt i):=by
  obtain ⟨B,log,h1,h2,h3,h4,h5,h6⟩:=h
  refine ⟨B,log,h1.beat hi,h2,by omega,fun e j hj h0 => ?_,fun e => h5 e,fun e => (h6 e).same rfl fun j => rfl⟩
  by_cases hji:j = i
  · subst hji; exact know_beat h1 hi h0
  · exact know_beat_other (h4 e j (by omega) h0) hji
theorem PhB.ticks (h:PhB k g.n T g):PhC k 0 T g:=by
  obtain ⟨B,log,h1,h2,h3,h4,h5,h6⟩:=h
  have:=h1.n16
  exact ⟨B,log,h1,h2,by omega,h4,fun e _ => h5 e,fun _ e => absurd rfl e,h6⟩
theorem PhC.tick (h:PhC k i T g) (hi:i < g.n) (hk:k ≤ 8):PhC k (i + 1) T (g.tickAt i (2 ^ g.n - 1)):=by
  obtain ⟨B,log,h1,h2,h3,h4,h5,h6,h7⟩:=h
  have hn:=h1.n16
  have hB:B < 4611686018427387904:=by omega
  refine ⟨B + 1,_,h1.tick hi hB _,by omega,by omega,fun e j hj h0 => know_tick h1 hB hi h0 (h4 e j hj h0),fun _ e => absurd e (Nat.succ_ne_zero _),fun e _ => ?_,fun e => ?_⟩
  · by_cases h0:i = 0
    · subst h0
      exact tgt_tick0 h1 hB (h5 e rfl)
    · obtain ⟨T,p,ht⟩:=h6 e h0
      rw [(tick_other h1 hi h0).2]
      exact ⟨T,p,tgt_tick h1 ht hi h0⟩
  · have hs:=h7 e
    obtain ⟨e1,e2⟩:=settled_tick h1 hs hi
    rw [e2]
    refine hs.same rfl fun j => ?_
    rw [tick_m h1 hi,e1]
    split
    · rename_i e3; rw [e3]
    · rfl
theorem PhD.comes (h:PhD k c T g) (hb:g.bag ≠ []):PhD k (c + 1) T (g.comes 0 false true)∧(g.comes 0 false true).pot + 1 ≤ g.pot:=by
  obtain ⟨B,log,h1,h2,h3,h4,h5,h6⟩:=h
  obtain ⟨o,rest,hb⟩:∃ o rest,g.bag = o::rest:=by
    cases e:g.bag with
    | nil => exact absurd e hb
    | cons o l => exact ⟨o,l,rfl⟩
  have hinv:=h1.comes h2 0 false true
  rw [comes_cons hb] at hinv ⊢
  refine ⟨⟨B + 1,log,hinv,by omega,by omega,fun e j hj h0 => ?_,fun e => ?_,fun e => settled_comes h1 h2 (h6 e) hb⟩,pot_comes h1 hb⟩
  · intro v hv hP
    rw [lastBt_comes h1 h2 hb h0 hj]
    exact h4 e j hj h0 v hv hP
  · obtain ⟨T,p,ht⟩:=h5 e
    obtain ⟨p',ht'⟩:=tgt_comes h1 h2 ht hb
    exact ⟨T,p',ht'⟩
theorem PhD.done (h:PhD k c T g) (hb:g.bag = []) (hc:c ≤ 4500):∃ T',PhA (k + 1) T' g∧(2 ≤ k → T' = T):=by
  obtain ⟨B,log,h1,h2,h3,h4,h5,h6⟩:=h
  rcases (by omega:k = 0 ∨ k = 1 ∨ 2 ≤ k) with e | e | e
  · subst e
    refine ⟨T,⟨B,log,h1,h2,by omega,⟨fun _ => ⟨hb,fun v hv hP => ?_⟩,fun k => (by omega)⟩,fun _ => hb⟩,fun k => (by omega)⟩
    have hp:=h1.log.p v hv
    have:=h4 rfl v.ID.P.toNat (by omega) (by omega) v hv (by omega)
    unfold lastBt at this
    rw [hb] at this
    exact this
  · subst e
    obtain ⟨T',p,ht⟩:=h5 rfl
    exact ⟨T',⟨B,log,h1,h2,by omega,⟨fun k => (by omega),fun _ => tgt_end h1 ht hb⟩,fun _ => hb⟩,fun k => (by omega)⟩
  · exact ⟨T,⟨B,log,h1,h2,by omega,⟨fun k => (by omega),fun _ => h6 e⟩,fun _ => hb⟩,fun _ => rfl⟩
theorem PhA.all (h:PhA k T g) (hk:2 ≤ k) (hi:i < g.n):(g.m i).cur = T∧T.Set = 2 ^ g.n - 1∧(g.m i).opn = true:=by
  obtain ⟨B,log,h1,h2,h3,⟨h4,h5⟩,h6⟩:=h
  have hs:=h5 hk
  exact ⟨hs.all i hi,hs.set,settled_open h1 hs hi⟩
theorem PhA.ok (h:PhA k T g) (hk:k ≤ 9):GOk g:=by obtain ⟨B,log,h1,h2,h3,_⟩:=h; exact ⟨B,log,h1,h2,by omega⟩
theorem PhB.ok (h:PhB k i T g) (hk:k ≤ 9) (hi:i ≤ 16):GOk g:=by obtain ⟨B,log,h1,h2,h3,_⟩:=h; exact ⟨B,log,h1,h2,by omega⟩
theorem PhC.ok (h:PhC k i T g) (hk:k ≤ 9) (hi:i ≤ 16):GOk g:=by obtain ⟨B,log,h1,h2,h3,_⟩:=h; exact ⟨B,log,h1,h2,by omega⟩
theorem PhD.ok (h:PhD k c T g) (hk:k ≤ 9) (hc:c ≤ 10000):GOk g:=by obtain ⟨B,log,h1,h2,h3,_⟩:=h; exact ⟨B,log,h1,h2,by omega⟩
theorem GOk.len (h:GOk g):g.ms.length = g.n:=by obtain ⟨B,log,h1,_⟩:=h; exact h1.len
theorem GOk.pot (h:GOk g):g.bag.length ≤ g.pot∧g.pot ≤ 2 * g.bag.length + g.n * g.n:=pot_le h.len
def RunOk (i:Nat) (g:GG):Prop:=∃ log,Inv (1 + i) log g∧g.bag.length ≤ i * g.n
theorem RunOk.start (h1:1 ≤ n) (h2:n ≤ 16):RunOk 0 (GG.begin_ n):=⟨[],begin_inv h1 h2,by rw [Nat.zero_mul]; exact Nat.zero_le _⟩
theorem RunOk.move (h:RunOk i g) (hi:i ≤ 900) (a:GMove):RunOk (i + 1) (g.move a):=by
  obtain ⟨log,h1,h2⟩:=h
  obtain ⟨log',h3⟩:=move_inv h1 (by omega) (by omega) a
  have h4:=move_len h1 (by omega) (by omega) a
  exact ⟨log',by rw [show 1 + (i + 1) = 1 + i + 1 by omega]; exact h3,by rw [move_n,Nat.succ_mul]; omega⟩
theorem RunOk.acc (h:RunOk i g) (hi:i ≤ 900) (a:GMove) (hk:k < g.n):AccAt g (g.move a) k:=by
  obtain ⟨log,h1,h2⟩:=h
  exact move_acc h1 (by omega) (by omega) a k hk
theorem RunOk.ok (h:RunOk i g) (hi:i ≤ 900):GOk g:=by obtain ⟨log,h1,h2⟩:=h; exact ⟨_,log,h1,by omega,by omega⟩
end
end Go.FM

set_option linter.unusedVariables false
set_option linter.unusedSimpArgs false
namespace Go.FM
open Go
section
variable {P:Program} {N:Nat} {ρ:Nat → Value} {w:World} {ty:TypeId} {x y:Operand} {ats:Array TypeId} {k:IntKind}
theorem x_minN {a b:Nat} (hx:Ev N ρ x (.int k ((a:Nat):Int))) (hy:Ev N ρ y (.int k ((b:Nat):Int))):Ex P N ρ w (.call { callee:=.builtin .min,args:=#[x,y],argTypes:=ats }) ty (.int k ((min a b:Nat):Int)) w:=fun _ _ _ _ => by
  have h1:(en N ρ).eval x = .int k ((a:Nat):Int):=hx
  have h2:(en N ρ).eval y = .int k ((b:Nat):Int):=hy
  simp [execOp,resolve,invoke,builtin,h1,h2,Builtin.min_,Builtin.min2]
  split <;> omega
end
end Go.FM

set_option linter.unusedVariables false
set_option linter.unusedSimpArgs false
namespace Go.FM
open Go
section
variable {P:Program} {Q:Exit → Act → World → Prop} {N:Nat} {ρ:Nat → Value} {H:Hp} {w w':World} {L:List Res} {t ty e e' size bytes n m c g cap o k:Nat} {v:Value} {xs news:List Value} {x y:Operand} {z:Value} {ops:Array Oper} {rest:List Oper} {pos:String} {aft:Array Edge}
end
end Go.FM
namespace Go.FM
open Go
section
variable {α:Type} {d:Kd α} {H:Hp} {w:World} {L:List Res} {e n g cap:Nat} {cs:List Value} {xs:List α}
end
end Go.FM
namespace Go.FM
end Go.FM
namespace Go.FM
end Go.FM

set_option linter.unusedVariables false
set_option linter.unusedSimpArgs false
namespace Go.FM
open Go
structure Pk where
  From:Int
  To:Int
  v:Value
  bs:List Nat
def kPk:Kd Pk where
  sz:=3
  pos:=by decide
  rep _ p cs:=cs = [.int .i64 p.From,.int .i64 p.To,p.v]∧IB p.From∧IB p.To∧RowOk 1 p.v p.bs.length (p.bs.map encB)∧Small p.bs∧p.bs.length ≤ 140737488351232
  len h:=by rw [h.1]; rfl
  one h:=by
    obtain ⟨rfl,_,_,hok,_⟩:=h
    obtain ⟨A,c,hv,_⟩:=hok.slice
    simp [Value.oneCell',hv]
  mono _ h:=h
  bts:=40
  bts0:=by decide
structure NetS where
  n:Int
  hr:List Nat
  ps:List Pk
  bi:List Int
  lost:Int
structure NetOk (H:Hp) (s:NetS) (vb:Value) (cb:List Value) (vt:Value) (ct:List Value):Prop where
  n1:1 ≤ s.n
  n16:s.n ≤ 16
  hl:s.hr.length = 16
  hb:∀ x ∈ s.hr,x < 65536
  okb:RowOk 3 vb s.ps.length cb
  hkb:kPk.toKn.rows H s.ps cb
  okt:RowOk 1 vt s.bi.length ct
  hkt:kI.toKn.rows H s.bi ct
  len:s.bi.length = s.ps.length
  max:s.ps.length ≤ 4096
  l0:0 ≤ s.lost
theorem NetOk.mono {H H':Hp} {s:NetS} {vb:Value} {cb:List Value} {vt:Value} {ct:List Value} (h:NetOk H s vb cb vt ct) (hl:H.le H'):NetOk H' s vb cb vt ct :=
  ⟨h.n1,h.n16,h.hl,h.hb,h.okb,Kn.rows_mono h.hkb hl,h.okt,Kn.rows_mono h.hkt hl,h.len,h.max,h.l0⟩
section
variable {n lost:Int} {vb vt:Value} {hr:List Nat} {i x:Nat}
end
section
variable {TN TP TI TB g g':Nat} {s s':NetS} {vb vt vb' vt':Value} {cb ct cb' ct':List Value} {L M:List Res} {H:Hp} {w:World}
end
end Go.FM
namespace Go.FM
end Go.FM
namespace Go.FM
end Go.FM
namespace Go.FM
open Go
section
variable {TN TP TI TB g:Nat} {s:NetS} {vb vt:Value} {cb ct:List Value} {L:List Res} {H:Hp} {w:World}
end
end Go.FM

set_option linter.unusedVariables false
set_option linter.unusedSimpArgs false
namespace Go.FM
open Go
structure MemB (H:Hp) (N S:Nat) (C:GView) (Pm:GViewID) (Hi:Nat) (A:Option Addr) (jn jc:Nat) (jl:List GState) (os:List (GViewID × GViewID)):Prop where
  n1:1 ≤ N
  n16:N ≤ 16
  self:S < N
  cur:VOk C.ID
  set:C.Set < 65536
  prom:VOk Pm
  high:Hi < 18446744073709551616
  joined:Sl kState H A jn jc jl
  len:os.length = 16
  oth:∀ x ∈ os,VOk x.1∧VOk x.2
section
variable {H H':Hp} {n self high jn jc:Nat} {cur:GView} {prom:GViewID} {A:Option Addr} {jl:List GState} {os:List (GViewID × GViewID)} {m:MB} {sv:Value} {sc:List Value} {p:GProp} {w:World} {L:List Res}
theorem MemB.mono (h:MemB H n self cur prom high A jn jc jl os) (hl:H.le H'):MemB H' n self cur prom high A jn jc jl os :=
  ⟨h.n1,h.n16,h.self,h.cur,h.set,h.prom,h.high,h.joined.mono hl,h.len,h.oth⟩
theorem PropOk.mono (h:PropOk H p sv sc) (hl:H.le H'):PropOk H' p sv sc:=⟨h.id,h.set,h.who,h.ok,Kn.rows_mono h.hk hl⟩
theorem MemOk.b (h:MemOk H m A jn jc sv sc):MemB H m.n m.self m.cur m.prom m.high A jn jc m.joined m.others :=
  ⟨h.n1,h.n16,h.self,h.cur,h.set,h.prom,h.high,h.joined,h.len,h.oth⟩
theorem MemB.okN (h:MemB H n self cur prom high A jn jc jl os):MemOk H (MB.mk n self cur prom high none jl os) A jn jc sv sc :=
  ⟨h.n1,h.n16,h.self,h.cur,h.set,h.prom,h.high,h.joined,h.len,h.oth,fun p hp => (by cases hp)⟩
theorem MemB.okS (h:MemB H n self cur prom high A jn jc jl os) (hp:PropOk H p sv sc):MemOk H (MB.mk n self cur prom high (some p) jl os) A jn jc sv sc :=
  ⟨h.n1,h.n16,h.self,h.cur,h.set,h.prom,h.high,h.joined,h.len,h.oth,fun q hq => (by cases hq; exact hp)⟩
theorem MemOk.mono (h:MemOk H m A jn jc sv sc) (hl:H.le H'):MemOk H' m A jn jc sv sc :=
  ⟨h.n1,h.n16,h.self,h.cur,h.set,h.prom,h.high,h.joined.mono hl,h.len,h.oth,fun q hq => (h.prop q hq).mono hl⟩
def memR (TM TP TS:Nat) (g gp:Nat) (A:Option Addr) (jn jc:Nat) (sv:Value) (sc:List Value) (m:MB):List Res:=match m.prop with
  | none => [obj g TM (m.cells (.pointer none) (.slice A jn jc))]
  | some p => [obj g TM (m.cells (.pointer (some ⟨gp,0,none⟩)) (.slice A jn jc)),obj gp TP (propCells p sv),row TS 4 sv p.states.length sc]
variable {TM TP TS g gp:Nat}
def InstAt (H:Hp) (x:Option GInstall) (v:Value):Prop:=match x with
  | none => v = .pointer none
  | some y => ∃ g cs,v = .pointer (some ⟨g,0,none⟩)∧Rd H (some ⟨g,0,none⟩) cs∧kInstall.rep H y cs
theorem InstAt.cases {x:Option GInstall} {v:Value} (h:InstAt H x v):(x = none∧v = .pointer none) ∨ ∃ y g cs,x = some y∧v = .pointer (some ⟨g,0,none⟩)∧Rd H (some ⟨g,0,none⟩) cs∧kInstall.rep H y cs:=by
  cases x with
  | none => exact .inl ⟨rfl,h⟩
  | some y => obtain ⟨g,cs,h1,h2,h3⟩:=h; exact .inr ⟨y,g,cs,rfl,h1,h2,h3⟩
theorem InstAt.mono {x:Option GInstall} {v:Value} (h:InstAt H x v) (hl:H.le H'):InstAt H' x v:=by
  cases x with
  | none => exact h
  | some y => obtain ⟨g,cs,h1,h2,h3⟩:=h; exact ⟨g,cs,h1,h2.mono hl,kInstall.mono hl h3⟩
end
end Go.FM
namespace Go.FM
open Go
section
variable {α β:Type} {l:List α} {i:Nat} {z:α} {f:α → List β} {out ys:List β}
end
section
variable {m:MB} {p:GProp} {z:Nat}
end
end Go.FM
namespace Go.FM
open Go
section
variable {n self high:Nat} {cur:GView} {prom:GViewID} {prop:Option GProp} {jl:List GState} {os:List (GViewID × GViewID)} {f:GFrame} {st:GState} {p:GProp}
end
end Go.FM
namespace Go.FM
open Go
section
variable {n self high k:Nat} {cur:GView} {prom:GViewID} {jl:List GState} {os:List (GViewID × GViewID)} {f:GFrame} {p pz:GProp} {e:GState} {m m3:MB} {out:List GOut} {y:GInstall}
end
end Go.FM
namespace Go.FM
end Go.FM
namespace Go.FM
open Go
section
variable {m:MB} {e est:Nat} {sx:GState} {b:Bool}
end
end Go.FM
namespace Go.FM
open Go
section
variable {n self high:Nat} {cur:GView} {prom:GViewID} {prop:Option GProp} {jl:List GState} {os:List (GViewID × GViewID)} {f:GFrame} {sx:GState} {p:GProp} {m:MB}
end
end Go.FM
namespace Go.FM
open Go
structure MM where
  m:MB
  g:Nat
  gp:Nat
  A:Option Addr
  jn:Nat
  jc:Nat
  sv:Value
  sc:List Value
def MM.res (TM TP TS:Nat) (x:MM):List Res:=memR TM TP TS x.g x.gp x.A x.jn x.jc x.sv x.sc x.m
def MM.ok (x:MM) (H:Hp):Prop:=MemOk H x.m x.A x.jn x.jc x.sv x.sc
theorem MM.ok.mono {x:MM} {H H':Hp} (h:x.ok H) (hl:H.le H'):x.ok H':=MemOk.mono h hl
section
variable {H:Hp} {w:World} {L A:List Res}
variable {TM TP TS i:Nat} {l:List MM} {x y:MM}
theorem MM.ok.new {H:Hp} {n self:Nat} {g:Nat} (h1:1 ≤ n) (h2:n ≤ 16) (h3:self < n):MM.ok ⟨MB.new n self,g,0,none,0,0,.slice none 0 0,[]⟩ H:=by
  have hz:VOk z0:=⟨by decide,by constructor <;> decide⟩
  exact MemB.okN ⟨h1,h2,h3,hz,by decide,hz,by decide,Sl.nil _ _ none,by simp,fun x hx => by rw [List.eq_of_mem_replicate hx]; exact ⟨hz,hz⟩⟩
end
end Go.FM

set_option linter.unusedVariables false
set_option linter.unusedSimpArgs false
namespace Go.FM
open Go
section
variable {P:Program} {N:Nat} {ρ:Nat → Value} {w:World} {ty xt f:Nat} {x:Operand} {cs:Array Value} {fs:Array Field} {fd:Field} {v:Value}
end
end Go.FM
namespace Go.FM
open Go
end Go.FM

set_option linter.unusedVariables false
set_option linter.unusedSimpArgs false
namespace Go.FM
open Go
section
variable {l:List (List GEvent)} {e:List GEvent} {i:Nat}
end
end Go.FM

set_option linter.unusedVariables false
set_option linter.unusedSimpArgs false
namespace Go.Proofs.YtnikcgcbkdeeeaaDoor
open Go Go.FM Go.Proofs
attribute [local irreducible] wpList wpQuiet Code.wp Calls
set_option maxHeartbeats 8000000 in
theorem has_spec {H:Hp} {w:World} {L:List Res} (hs:St H w L) (s:Nat) (i:Int) (b_s:s < 65536) (b_i:-9223372036854775808 ≤ i∧i ≤ 9223372036854775807):Calls Tryd.prog 28 #[.int .u16 ((s:Nat):Int),.int .i64 i] w (fun e w' => e = .returned (.bool (has s i))∧St H w' L):=by
 refine enter (args:=[.int .u16 ((s:Nat):Int),.int .i64 i]) (N:=18) Tryd.func28 rfl rfl rfl ?_
 refine c_seq (c_region (st (v:=.bool false) (x_assign .const) ?_))
 refine c_nil (n_then (c_seq (c_region (st (v:=.int .i64 i) (x_move (.tmp rfl rfl)) ?_))))
 refine st (v:=.bool (decide ((0:Int) ≤ i))) (x_geq (k:=.i64) (a:=i) (b:=0) (.tmp rfl rfl) .const) ?_
 refine st (v:=.bool (decide ((0:Int) ≤ i))) (x_move (.tmp rfl rfl)) ?_
 rcases Bool.eq_false_or_eq_true (decide ((0:Int) ≤ i)) with hc1 | hc1
 have hp1:(0:Int) ≤ i:=of_decide_eq_true hc1
 refine g_yes (yk 7 true rfl rfl hc1) ?_
 refine st (v:=.int .i64 i) (x_move (.tmp rfl rfl)) ?_
 refine g_yes (yk 7 true rfl rfl hc1) ?_
 refine st (v:=.bool (decide ((i:Int) < 16))) (x_lss (k:=.i64) (a:=i) (b:=16) (.tmp rfl rfl) .const) ?_
 refine st (v:=.bool (decide ((i:Int) < 16))) (x_pick_t (.tmp rfl (cVb hc1)) (.tmp rfl rfl)) ?_
 refine st (v:=.bool (decide ((i:Int) < 16))) (x_move (.tmp rfl rfl)) ?_
 rcases Bool.eq_false_or_eq_true (decide ((i:Int) < 16)) with hc2 | hc2
 have hp2:(i:Int) < 16:=of_decide_eq_true hc2
 refine g_yes (yk 11 true rfl rfl hc2) ?_
 refine st (v:=.int .u16 ((s:Nat):Int)) (x_move (.tmp rfl rfl)) ?_
 refine g_yes (yk 11 true rfl rfl hc2) ?_
 refine st (v:=.int .i64 i) (x_move (.tmp rfl rfl)) ?_
 refine g_yes (yk 11 true rfl rfl hc2) ?_
 have hb3:(s / 2 ^ i.toNat) < 65536:=Nat.lt_of_le_of_lt (Nat.div_le_self _ _) b_s
 refine st (v:=.int .u16 (((s / 2 ^ i.toNat):Nat):Int)) (x_shr (k:=.u16) (m:=s) (b:=i) rfl (.tmp rfl rfl) (.tmp rfl rfl) (by omega) (show _ < 2 ^ 16 from b_s)) ?_
 refine g_yes (yk 11 true rfl rfl hc2) ?_
 have hb4:((s / 2 ^ i.toNat) &&& 1) < 65536:=Nat.lt_of_le_of_lt Nat.and_le_left hb3
 refine st (v:=.int .u16 ((((s / 2 ^ i.toNat) &&& 1):Nat):Int)) (x_and (k:=.u16) (m:=(s / 2 ^ i.toNat)) (n:=1) rfl (.tmp rfl rfl) .const (show _ < 2 ^ 16 from hb3) (show _ < 2 ^ 16 from (by decide))) ?_
 refine g_yes (yk 11 true rfl rfl hc2) ?_
 refine st (v:=.bool (decide ((((((s / 2 ^ i.toNat) &&& 1):Nat):Int):Int) = 1))) (x_eql (k:=.u16) (a:=((((s / 2 ^ i.toNat) &&& 1):Nat):Int)) (b:=1) (.tmp rfl rfl) .const) ?_
 refine st (v:=.bool (decide ((((((s / 2 ^ i.toNat) &&& 1):Nat):Int):Int) = 1))) (x_pick_t (.tmp rfl (cVb hc2)) (.tmp rfl rfl)) ?_
 refine st (v:=.bool (decide ((((((s / 2 ^ i.toNat) &&& 1):Nat):Int):Int) = 1))) (x_assign (.tmp rfl rfl)) ?_
 refine c_nil (n_then (c_ret (leave_ret (res_one (v:=.bool (decide ((((((s / 2 ^ i.toNat) &&& 1):Nat):Int):Int) = 1))) rfl (.mk rfl rfl)) ?_)))
 exact ⟨congrArg (fun b => Ending.returned (.bool b)) (has_yes (by omega) (by omega)),hs⟩
 have hp2:¬ ((i:Int) < 16):=of_decide_eq_false hc2
 refine g_no (yk 11 false rfl rfl hc2) rfl ?_
 refine g_no (yk 11 false rfl rfl hc2) rfl ?_
 refine g_no (yk 11 false rfl rfl hc2) rfl ?_
 refine g_no (yk 11 false rfl rfl hc2) rfl ?_
 refine g_no (yk 11 false rfl rfl hc2) rfl ?_
 refine st (v:=.bool false) (x_pick_f (.tmp rfl (cVb hc2)) .const) ?_
 refine st (v:=.bool false) (x_assign (.tmp rfl rfl)) ?_
 refine c_nil (n_then (c_ret (leave_ret (res_one (v:=.bool false) rfl (.mk rfl rfl)) ?_)))
 exact ⟨congrArg (fun b => Ending.returned (.bool b)) (has_no (by omega)),hs⟩
 have hp1:¬ ((0:Int) ≤ i):=of_decide_eq_false hc1
 refine g_no (yk 7 false rfl rfl hc1) rfl ?_
 refine g_no (yk 7 false rfl rfl hc1) rfl ?_
 refine st (v:=.bool false) (x_pick_f (.tmp rfl (cVb hc1)) .const) ?_
 refine st (v:=.bool false) (x_move (.tmp rfl rfl)) ?_
 refine g_no (yl (dj:=11) (b:=false) rfl rfl rfl) rfl ?_
 refine g_no (yl (dj:=11) (b:=false) rfl rfl rfl) rfl ?_
 refine g_no (yl (dj:=11) (b:=false) rfl rfl rfl) rfl ?_
 refine g_no (yl (dj:=11) (b:=false) rfl rfl rfl) rfl ?_
 refine g_no (yl (dj:=11) (b:=false) rfl rfl rfl) rfl ?_
 refine st (v:=.bool false) (x_pick_f (.tmp rfl rfl) .const) ?_
 refine st (v:=.bool false) (x_assign (.tmp rfl rfl)) ?_
 refine c_nil (n_then (c_ret (leave_ret (res_one (v:=.bool false) rfl (.mk rfl rfl)) ?_)))
 exact ⟨congrArg (fun b => Ending.returned (.bool b)) (has_no (by omega)),hs⟩
set_option maxHeartbeats 8000000 in
theorem nan_u_spec {H:Hp} {w:World} {L:List Res} (hs:St H w L) (a:Int):Calls Tryd.prog 51 #[.int .u64 a] w (fun e w' => e = .returned (.bool false)∧St H w' L):=by
 refine enter (args:=[.int .u64 a]) (N:=6) Tryd.func51 rfl rfl rfl ?_
 refine c_seq (c_region (st (v:=.bool false) (x_assign .const) ?_))
 refine c_nil (n_then (c_seq (c_region (st (v:=.int .u64 a) (x_move (.tmp rfl rfl)) ?_))))
 refine st (v:=.int .u64 a) (x_move (.tmp rfl rfl)) ?_
 refine st (v:=.bool (decide ((a:Int) ≠ a))) (x_neq (k:=.u64) (a:=a) (b:=a) (.tmp rfl rfl) (.tmp rfl rfl)) ?_
 refine st (v:=.bool false) (x_assign (.tmp rfl (cVb (show (decide ((a:Int) ≠ a)) = false from by simp)))) ?_
 refine c_nil (n_then (c_ret (leave_ret (res_one (v:=.bool false) rfl (.mk rfl rfl)) ?_)))
 exact ⟨rfl,hs⟩
set_option maxHeartbeats 8000000 in
theorem cmp_u_spec {H:Hp} {w:World} {L:List Res} (hs:St H w L) (a b:Int):Calls Tryd.prog 47 #[.int .u64 a,.int .u64 b] w (fun e w' => e = .returned (.int .i64 (cmpI a b))∧St H w' L):=by
 refine enter (args:=[.int .u64 a,.int .u64 b]) (N:=20) Tryd.func47 rfl rfl rfl ?_
 refine c_seq (c_region (st (v:=.int .i64 0) (x_assign .const) ?_))
 refine c_nil (n_then (c_seq (c_region (st (v:=.int .u64 a) (x_move (.tmp rfl rfl)) ?_))))
 refine st_c cb51 .func (evs1 (.tmp rfl rfl)) (nan_u_spec hs a) ?_
 rintro e w1 ⟨rfl,hs2⟩
 refine ⟨_,rfl,?_⟩
 refine st (v:=.bool false) (x_assign (.tmp rfl rfl)) ?_
 refine c_nil (n_then (c_seq (c_region (st (v:=.int .u64 b) (x_move (.tmp rfl rfl)) ?_))))
 refine st_c cb51 .func (evs1 (.tmp rfl rfl)) (nan_u_spec hs2 b) ?_
 rintro e w3 ⟨rfl,hs4⟩
 refine ⟨_,rfl,?_⟩
 refine st (v:=.bool false) (x_assign (.tmp rfl rfl)) ?_
 refine c_nil (n_then (c_seq (c_seq (c_region (st (v:=.bool false) (x_move (.tmp rfl rfl)) ?_)))))
 refine c_nil (n_then (c_cond_f (t:=false) (.tmp rfl rfl) rfl ?_))
 refine c_skip (n_then (c_seq (c_seq (c_region (st (v:=.bool false) (x_move (.tmp rfl rfl)) ?_)))))
 refine c_nil (n_then (c_cond_f (t:=false) (.tmp rfl rfl) rfl ?_))
 refine c_skip (n_then (c_seq (c_seq (c_region (st (v:=.int .u64 a) (x_move (.tmp rfl rfl)) ?_)))))
 refine st (v:=.int .u64 b) (x_move (.tmp rfl rfl)) ?_
 refine st (v:=.bool (decide ((a:Int) < b))) (x_lss (k:=.u64) (a:=a) (b:=b) (.tmp rfl rfl) (.tmp rfl rfl)) ?_
 refine c_nil (n_then ?_)
 rcases Bool.eq_false_or_eq_true (decide ((a:Int) < b)) with hc5 | hc5
 have hp5:(a:Int) < b:=of_decide_eq_true hc5
 refine c_cond_t (t:=true) (.tmp rfl (cVb hc5)) rfl ?_
 refine c_seq (c_region (st (v:=.int .i64 (-1)) (x_assign .const) ?_))
 refine c_nil (n_then (c_ret (r_then (leave_ret (res_one (v:=.int .i64 (-1)) rfl (.mk rfl rfl)) ?_))))
 have hcm:(-1) = cmpI a b:=by
   unfold cmpI
   repeat' split
   all_goals omega
 exact ⟨congrArg (fun z => Ending.returned (.int .i64 z)) hcm,hs4⟩
 have hp5:¬ ((a:Int) < b):=of_decide_eq_false hc5
 refine c_cond_f (t:=false) (.tmp rfl (cVb hc5)) rfl ?_
 refine c_skip (n_then (c_seq (c_seq (c_region (st (v:=.int .u64 a) (x_move (.tmp rfl rfl)) ?_)))))
 refine st (v:=.int .u64 b) (x_move (.tmp rfl rfl)) ?_
 refine st (v:=.bool (decide ((b:Int) < a))) (x_gtr (k:=.u64) (a:=a) (b:=b) (.tmp rfl rfl) (.tmp rfl rfl)) ?_
 refine c_nil (n_then ?_)
 rcases Bool.eq_false_or_eq_true (decide ((b:Int) < a)) with hc6 | hc6
 have hp6:(b:Int) < a:=of_decide_eq_true hc6
 refine c_cond_t (t:=true) (.tmp rfl (cVb hc6)) rfl ?_
 refine c_seq (c_region (st (v:=.int .i64 1) (x_assign .const) ?_))
 refine c_nil (n_then (c_ret (r_then (leave_ret (res_one (v:=.int .i64 1) rfl (.mk rfl rfl)) ?_))))
 have hcm:1 = cmpI a b:=by
   unfold cmpI
   repeat' split
   all_goals omega
 exact ⟨congrArg (fun z => Ending.returned (.int .i64 z)) hcm,hs4⟩
 have hp6:¬ ((b:Int) < a):=of_decide_eq_false hc6
 refine c_cond_f (t:=false) (.tmp rfl (cVb hc6)) rfl ?_
 refine c_skip (n_then (c_seq (c_region (st (v:=.int .i64 0) (x_assign .const) ?_))))
 refine c_nil (n_then (c_ret (leave_ret (res_one (v:=.int .i64 0) rfl (.mk rfl rfl)) ?_)))
 have hcm:0 = cmpI a b:=by
   unfold cmpI
   repeat' split
   all_goals omega
 exact ⟨congrArg (fun z => Ending.returned (.int .i64 z)) hcm,hs4⟩
set_option maxHeartbeats 8000000 in
theorem nan_i_spec {H:Hp} {w:World} {L:List Res} (hs:St H w L) (a:Int):Calls Tryd.prog 52 #[.int .i64 a] w (fun e w' => e = .returned (.bool false)∧St H w' L):=by
 refine enter (args:=[.int .i64 a]) (N:=6) Tryd.func52 rfl rfl rfl ?_
 refine c_seq (c_region (st (v:=.bool false) (x_assign .const) ?_))
 refine c_nil (n_then (c_seq (c_region (st (v:=.int .i64 a) (x_move (.tmp rfl rfl)) ?_))))
 refine st (v:=.int .i64 a) (x_move (.tmp rfl rfl)) ?_
 refine st (v:=.bool (decide ((a:Int) ≠ a))) (x_neq (k:=.i64) (a:=a) (b:=a) (.tmp rfl rfl) (.tmp rfl rfl)) ?_
 refine st (v:=.bool false) (x_assign (.tmp rfl (cVb (show (decide ((a:Int) ≠ a)) = false from by simp)))) ?_
 refine c_nil (n_then (c_ret (leave_ret (res_one (v:=.bool false) rfl (.mk rfl rfl)) ?_)))
 exact ⟨rfl,hs⟩
set_option maxHeartbeats 8000000 in
theorem cmp_i_spec {H:Hp} {w:World} {L:List Res} (hs:St H w L) (a b:Int):Calls Tryd.prog 48 #[.int .i64 a,.int .i64 b] w (fun e w' => e = .returned (.int .i64 (cmpI a b))∧St H w' L):=by
 refine enter (args:=[.int .i64 a,.int .i64 b]) (N:=20) Tryd.func48 rfl rfl rfl ?_
 refine c_seq (c_region (st (v:=.int .i64 0) (x_assign .const) ?_))
 refine c_nil (n_then (c_seq (c_region (st (v:=.int .i64 a) (x_move (.tmp rfl rfl)) ?_))))
 refine st_c cb52 .func (evs1 (.tmp rfl rfl)) (nan_i_spec hs a) ?_
 rintro e w1 ⟨rfl,hs2⟩
 refine ⟨_,rfl,?_⟩
 refine st (v:=.bool false) (x_assign (.tmp rfl rfl)) ?_
 refine c_nil (n_then (c_seq (c_region (st (v:=.int .i64 b) (x_move (.tmp rfl rfl)) ?_))))
 refine st_c cb52 .func (evs1 (.tmp rfl rfl)) (nan_i_spec hs2 b) ?_
 rintro e w3 ⟨rfl,hs4⟩
 refine ⟨_,rfl,?_⟩
 refine st (v:=.bool false) (x_assign (.tmp rfl rfl)) ?_
 refine c_nil (n_then (c_seq (c_seq (c_region (st (v:=.bool false) (x_move (.tmp rfl rfl)) ?_)))))
 refine c_nil (n_then (c_cond_f (t:=false) (.tmp rfl rfl) rfl ?_))
 refine c_skip (n_then (c_seq (c_seq (c_region (st (v:=.bool false) (x_move (.tmp rfl rfl)) ?_)))))
 refine c_nil (n_then (c_cond_f (t:=false) (.tmp rfl rfl) rfl ?_))
 refine c_skip (n_then (c_seq (c_seq (c_region (st (v:=.int .i64 a) (x_move (.tmp rfl rfl)) ?_)))))
 refine st (v:=.int .i64 b) (x_move (.tmp rfl rfl)) ?_
 refine st (v:=.bool (decide ((a:Int) < b))) (x_lss (k:=.i64) (a:=a) (b:=b) (.tmp rfl rfl) (.tmp rfl rfl)) ?_
 refine c_nil (n_then ?_)
 rcases Bool.eq_false_or_eq_true (decide ((a:Int) < b)) with hc5 | hc5
 have hp5:(a:Int) < b:=of_decide_eq_true hc5
 refine c_cond_t (t:=true) (.tmp rfl (cVb hc5)) rfl ?_
 refine c_seq (c_region (st (v:=.int .i64 (-1)) (x_assign .const) ?_))
 refine c_nil (n_then (c_ret (r_then (leave_ret (res_one (v:=.int .i64 (-1)) rfl (.mk rfl rfl)) ?_))))
 have hcm:(-1) = cmpI a b:=by
   unfold cmpI
   repeat' split
   all_goals omega
 exact ⟨congrArg (fun z => Ending.returned (.int .i64 z)) hcm,hs4⟩
 have hp5:¬ ((a:Int) < b):=of_decide_eq_false hc5
 refine c_cond_f (t:=false) (.tmp rfl (cVb hc5)) rfl ?_
 refine c_skip (n_then (c_seq (c_seq (c_region (st (v:=.int .i64 a) (x_move (.tmp rfl rfl)) ?_)))))
 refine st (v:=.int .i64 b) (x_move (.tmp rfl rfl)) ?_
 refine st (v:=.bool (decide ((b:Int) < a))) (x_gtr (k:=.i64) (a:=a) (b:=b) (.tmp rfl rfl) (.tmp rfl rfl)) ?_
 refine c_nil (n_then ?_)
 rcases Bool.eq_false_or_eq_true (decide ((b:Int) < a)) with hc6 | hc6
 have hp6:(b:Int) < a:=of_decide_eq_true hc6
 refine c_cond_t (t:=true) (.tmp rfl (cVb hc6)) rfl ?_
 refine c_seq (c_region (st (v:=.int .i64 1) (x_assign .const) ?_))
 refine c_nil (n_then (c_ret (r_then (leave_ret (res_one (v:=.int .i64 1) rfl (.mk rfl rfl)) ?_))))
 have hcm:1 = cmpI a b:=by
   unfold cmpI
   repeat' split
   all_goals omega
 exact ⟨congrArg (fun z => Ending.returned (.int .i64 z)) hcm,hs4⟩
 have hp6:¬ ((b:Int) < a):=of_decide_eq_false hc6
 refine c_cond_f (t:=false) (.tmp rfl (cVb hc6)) rfl ?_
 refine c_skip (n_then (c_seq (c_region (st (v:=.int .i64 0) (x_assign .const) ?_))))
 refine c_nil (n_then (c_ret (leave_ret (res_one (v:=.int .i64 0) rfl (.mk rfl rfl)) ?_)))
 have hcm:0 = cmpI a b:=by
   unfold cmpI
   repeat' split
   all_goals omega
 exact ⟨congrArg (fun z => Ending.returned (.int .i64 z)) hcm,hs4⟩
set_option maxHeartbeats 8000000 in
theorem compare_spec {H:Hp} {w:World} {L:List Res} (hs:St H w L) (an:Nat) (ap:Int) (bn:Nat) (bp:Int):Calls Tryd.prog 38 #[.agg #[.int .u64 ((an:Nat):Int),.int .i64 ap],.agg #[.int .u64 ((bn:Nat):Int),.int .i64 bp]] w (fun e w' => e = .returned (.int .i64 (cmpV an ap bn bp))∧St H w' L):=by
 refine enter (args:=[.agg #[.int .u64 ((an:Nat):Int),.int .i64 ap],.agg #[.int .u64 ((bn:Nat):Int),.int .i64 bp]]) (N:=19) Tryd.func38 rfl rfl rfl ?_
 refine c_seq (c_region (st_m (m_box (cs:=[.int .u64 ((an:Nat):Int),.int .i64 ap]) hs (v:=.agg #[.int .u64 ((an:Nat):Int),.int .i64 ap]) (.tmp rfl rfl) rfl) ?_))
 rintro _ w2 ⟨g1,rfl,hs4⟩
 refine st_m (m_box (cs:=[.int .u64 ((bn:Nat):Int),.int .i64 bp]) hs4 (v:=.agg #[.int .u64 ((bn:Nat):Int),.int .i64 bp]) (.tmp rfl rfl) rfl) ?_
 rintro _ w6 ⟨g5,rfl,hs8⟩
 refine st (v:=.int .i64 0) (x_assign .const) ?_
 refine c_nil (n_then (c_seq (c_seq (c_region (st (v:=.pointer (some ⟨g1,0 + 0,none⟩)) (fa44_0 (.tmp rfl rfl)) ?_)))))
 refine st (v:=.int .u64 ((an:Nat):Int)) (ld42 (.tmp rfl rfl) (hs8.cell 1 rfl (0 + 0) rfl)) ?_
 refine st (v:=.pointer (some ⟨g5,0 + 0,none⟩)) (fa44_0 (.tmp rfl rfl)) ?_
 refine st (v:=.int .u64 ((bn:Nat):Int)) (ld42 (.tmp rfl rfl) (hs8.cell 0 rfl (0 + 0) rfl)) ?_
 refine st_c cb47 .func (evs2 (.tmp rfl rfl) (.tmp rfl rfl)) (cmp_u_spec hs8 ((an:Nat):Int) ((bn:Nat):Int)) ?_
 rintro e w9 ⟨rfl,hs10⟩
 refine ⟨_,rfl,?_⟩
 refine st (v:=.int .i64 (cmpI ((an:Nat):Int) ((bn:Nat):Int))) (x_assign (.tmp rfl rfl)) ?_
 refine c_nil (n_then (c_seq (c_region (st (v:=.int .i64 (cmpI ((an:Nat):Int) ((bn:Nat):Int))) (x_move (.tmp rfl rfl)) ?_))))
 refine st (v:=.bool (decide (((cmpI ((an:Nat):Int) ((bn:Nat):Int)):Int) ≠ 0))) (x_neq (k:=.i64) (a:=(cmpI ((an:Nat):Int) ((bn:Nat):Int))) (b:=0) (.tmp rfl rfl) .const) ?_
 refine c_nil (n_then ?_)
 rcases Bool.eq_false_or_eq_true (decide (((cmpI ((an:Nat):Int) ((bn:Nat):Int)):Int) ≠ 0)) with hc11 | hc11
 have hp11:((cmpI ((an:Nat):Int) ((bn:Nat):Int)):Int) ≠ 0:=of_decide_eq_true hc11
 refine c_cond_t (t:=true) (.tmp rfl (cVb hc11)) rfl ?_
 refine c_seq (c_region (st (v:=.int .i64 (cmpI ((an:Nat):Int) ((bn:Nat):Int))) (x_move (.tmp rfl rfl)) ?_))
 refine st (v:=.int .i64 (cmpI ((an:Nat):Int) ((bn:Nat):Int))) (x_assign (.tmp rfl rfl)) ?_
 refine c_nil (n_then (c_ret (r_then (leave_ret (res_one (v:=.int .i64 (cmpI ((an:Nat):Int) ((bn:Nat):Int))) rfl (.mk rfl rfl)) ?_))))
 exact ⟨congrArg (fun z => Ending.returned (.int .i64 z)) (by first | exact cmpV_ne (by assumption) | exact cmpV_eq (by assumption)),hs10.drop.drop⟩
 have hp11:¬ (((cmpI ((an:Nat):Int) ((bn:Nat):Int)):Int) ≠ 0):=of_decide_eq_false hc11
 refine c_cond_f (t:=false) (.tmp rfl (cVb hc11)) rfl ?_
 refine c_skip (n_then (c_seq (c_region (st (v:=.pointer (some ⟨g1,0 + 1,none⟩)) (fa44_1 (.tmp rfl rfl)) ?_))))
 refine st (v:=.int .i64 ap) (ld3 (.tmp rfl rfl) (hs10.cell 1 rfl (0 + 1) rfl)) ?_
 refine st (v:=.pointer (some ⟨g5,0 + 1,none⟩)) (fa44_1 (.tmp rfl rfl)) ?_
 refine st (v:=.int .i64 bp) (ld3 (.tmp rfl rfl) (hs10.cell 0 rfl (0 + 1) rfl)) ?_
 refine st_c cb48 .func (evs2 (.tmp rfl rfl) (.tmp rfl rfl)) (cmp_i_spec hs10 ap bp) ?_
 rintro e w12 ⟨rfl,hs13⟩
 refine ⟨_,rfl,?_⟩
 refine st (v:=.int .i64 (cmpI ap bp)) (x_assign (.tmp rfl rfl)) ?_
 refine c_nil (n_then (c_ret (leave_ret (res_one (v:=.int .i64 (cmpI ap bp)) rfl (.mk rfl rfl)) ?_)))
 exact ⟨congrArg (fun z => Ending.returned (.int .i64 z)) (by first | exact cmpV_ne (by assumption) | exact cmpV_eq (by assumption)),hs13.drop.drop⟩
set_option maxHeartbeats 8000000 in
theorem above_spec {H:Hp} {w:World} {L:List Res} (hs:St H w L) (an:Nat) (ap:Int) (bn:Nat) (bp:Int):Calls Tryd.prog 29 #[.agg #[.int .u64 ((an:Nat):Int),.int .i64 ap],.agg #[.int .u64 ((bn:Nat):Int),.int .i64 bp]] w (fun e w' => e = .returned (.bool (decide (0 < cmpV an ap bn bp)))∧St H w' L):=by
 refine enter (args:=[.agg #[.int .u64 ((an:Nat):Int),.int .i64 ap],.agg #[.int .u64 ((bn:Nat):Int),.int .i64 bp]]) (N:=9) Tryd.func29 rfl rfl rfl ?_
 refine c_seq (c_region (st_m (m_box (cs:=[.int .u64 ((an:Nat):Int),.int .i64 ap]) hs (v:=.agg #[.int .u64 ((an:Nat):Int),.int .i64 ap]) (.tmp rfl rfl) rfl) ?_))
 rintro _ w2 ⟨g1,rfl,hs4⟩
 refine st_m (m_box (cs:=[.int .u64 ((bn:Nat):Int),.int .i64 bp]) hs4 (v:=.agg #[.int .u64 ((bn:Nat):Int),.int .i64 bp]) (.tmp rfl rfl) rfl) ?_
 rintro _ w6 ⟨g5,rfl,hs8⟩
 refine st (v:=.bool false) (x_assign .const) ?_
 refine c_nil (n_then (c_seq (c_region (st (v:=.agg #[.int .u64 ((an:Nat):Int),.int .i64 ap]) (ld44 (cs:=[.int .u64 ((an:Nat):Int),.int .i64 ap]) (.tmp rfl rfl) (hs8.at_ 1 rfl (0) rfl) rfl) ?_))))
 refine st (v:=.agg #[.int .u64 ((bn:Nat):Int),.int .i64 bp]) (ld44 (cs:=[.int .u64 ((bn:Nat):Int),.int .i64 bp]) (.tmp rfl rfl) (hs8.at_ 0 rfl (0) rfl) rfl) ?_
 refine st_c cb38 .func (evs2 (.tmp rfl rfl) (.tmp rfl rfl)) (compare_spec hs8 an ap bn bp) ?_
 rintro e w9 ⟨rfl,hs10⟩
 refine ⟨_,rfl,?_⟩
 refine st (v:=.bool (decide ((0:Int) < (cmpV an ap bn bp)))) (x_gtr (k:=.i64) (a:=(cmpV an ap bn bp)) (b:=0) (.tmp rfl rfl) .const) ?_
 refine st (v:=.bool (decide ((0:Int) < (cmpV an ap bn bp)))) (x_assign (.tmp rfl rfl)) ?_
 refine c_nil (n_then (c_ret (leave_ret (res_one (v:=.bool (decide ((0:Int) < (cmpV an ap bn bp)))) rfl (.mk rfl rfl)) ?_)))
 exact ⟨rfl,hs10.drop.drop⟩
theorem least_spec2 {H:Hp} {w:World} {L:List Res} (hs:St H w L) (htab:Tab H) (s:Nat) (b_s:s < 65536) (h0:s ≠ 0):Calls Tryd.prog 39 #[.int .u16 ((s:Nat):Int)] w (fun e w' => e = .returned (.int .i64 ((low 16 s:Nat):Int))∧St H w' L):=by
  have:=least_spec hs htab s b_s
  simp only [least,if_neg h0] at this
  exact this
set_option maxHeartbeats 8000000 in
theorem list_spec {H:Hp} {w:World} {L:List Res} (hs:St H w L) (htab:Tab H) (s:Nat) (b_s:s < 65536):Calls Tryd.prog 32 #[.int .u16 ((s:Nat):Int)] w (fun e w' => ∃ v,e = .returned v∧RowOk 1 v (lst s).length ((lst s).map encI)∧St H w' (row 3 1 v (lst s).length ((lst s).map encI)::L)):=by
 refine enter (args:=[.int .u16 ((s:Nat):Int)]) (N:=16) Tryd.func32 rfl rfl rfl ?_
 refine c_seq (c_region (st (v:=.slice none 0 0) (x_assign .const) ?_))
 refine c_nil (n_then (c_seq (c_region (st (v:=.slice none 0 0) (x_assign .const) ?_))))
 refine c_nil (n_then (c_seq (c_block ?_)))
 have hs0:=hs.rowNil 3 1
 refine c_loop (fun ρ w mm => ∃ (r:Nat) (v:Value) (pre:List Nat),ρ 0 = .int .u16 ((r:Nat):Int)∧ρ 3 = v∧(r < 65536)∧(lst s = pre ++ lst r)∧(RowOk 1 v pre.length (pre.map encI))∧St H w (row 3 1 v pre.length (pre.map encI)::L)∧mm = (lst r).length) _ ⟨s,(.slice none 0 0),[],rfl,rfl,b_s,(by simp),(RowOk.nil 1),hs0,rfl⟩ ?_
 rintro ρ w mm ⟨r,v,pre,hρ2,hρ3,hr,hl,ok,hs4,rfl⟩
 refine c_seq (c_seq (c_region (st (v:=.int .u16 ((r:Nat):Int)) (x_move (.tmp rfl hρ2)) ?_)))
 refine st (v:=.bool (decide ((((r:Nat):Int):Int) ≠ 0))) (x_neq (k:=.u16) (a:=((r:Nat):Int)) (b:=0) (.tmp rfl rfl) .const) ?_
 refine c_nil (n_then ?_)
 rcases Bool.eq_false_or_eq_true (decide ((((r:Nat):Int):Int) ≠ 0)) with hc5 | hc5
 have hp5:(((r:Nat):Int):Int) ≠ 0:=of_decide_eq_true hc5
 refine c_cond_t (t:=true) (.tmp rfl (cVb hc5)) rfl ?_
 refine c_skip (n_then (c_block (c_seq (c_region (st (v:=v) (x_move (.tmp rfl hρ3)) ?_)))))
 refine st (v:=.int .u16 ((r:Nat):Int)) (x_move (.tmp rfl hρ2)) ?_
 refine st_c cb39 .func (evs1 (.tmp rfl rfl)) (least_spec2 hs4 htab r hr (by omega)) ?_
 rintro e w6 ⟨rfl,hs7⟩
 refine ⟨_,rfl,?_⟩
 refine st_m (m_lit (n:=1) (ps:=[(0,.int .i64 ((low 16 r:Nat):Int))]) (cs:=[.int .i64 ((low 16 r:Nat):Int)]) Tryd.underlying31 inf3 (.cons (.tmp rfl rfl) Evp.nil) (by decide) (by decide) rfl rfl hs7) ?_
 rintro _ w9 ⟨g8,rfl,hs11⟩
 have hln:=lst_pred r (by omega) hr
 have hll:(lst s).length ≤ 16:=by rw [lst_length]; exact pc_le 16 s
 have hl2:pre.length + (lst r).length ≤ 16:=by rw [hl] at hll; simpa using hll
 have hl3:1 ≤ (lst r).length:=by rw [hln]; simp
 have hs12:=hs11.p1
 refine st_m (m_app (news:=[.int .i64 ((low 16 r:Nat):Int)]) (m:=1) Tryd.underlying31 inf3 rfl (by decide) hs12 ok (.tmp rfl rfl) (.tmp rfl rfl) rfl (hs12.at_ 1 rfl 0 rfl) (by simp [Value.oneCell']) (by omega) (by decide)) ?_
 rintro v13 w14 ⟨ok16,hs17⟩
 refine st (v:=v13) (x_assign (.tmp rfl rfl)) ?_
 refine c_nil (n_then (c_region (st (v:=.int .u16 ((r:Nat):Int)) (x_move (.tmp rfl hρ2)) ?_)))
 refine st (v:=.int .u16 ((r:Nat):Int)) (x_move (.tmp rfl hρ2)) ?_
 have hb18:(r - 1) < 65536:=by omega
 refine st (v:=.int .u16 (((r - 1):Nat):Int)) (x_sub (k:=.u16) (a:=((r:Nat):Int)) (b:=1) (.tmp rfl rfl) .const (wU rfl (by omega) hb18)) ?_
 have hb19:(r &&& (r - 1)) < 65536:=Nat.lt_of_le_of_lt Nat.and_le_left hr
 refine st (v:=.int .u16 (((r &&& (r - 1)):Nat):Int)) (x_and (k:=.u16) (m:=r) (n:=(r - 1)) rfl (.tmp rfl rfl) (.tmp rfl rfl) (show _ < 2 ^ 16 from hr) (show _ < 2 ^ 16 from hb18)) ?_
 refine st (v:=.int .u16 (((r &&& (r - 1)):Nat):Int)) (x_assign (.tmp rfl rfl)) ?_
 refine c_nil (n_block ?_)
 refine n_then ⟨_,_,rfl,?_,(r &&& (r - 1)),v13,(pre ++ [low 16 r]),rfl,rfl,(Nat.lt_of_le_of_lt Nat.and_le_left hr),(by rw [hl,lst_pred r (by omega) hr]; simp),(RowOk.snoc (enc:=encI) ok16),(St.rowSnoc (enc:=encI) hs17.drop2),rfl⟩
 exact (by rw [lst_pred r (by omega) hr]; simp)
 have hp5:¬ ((((r:Nat):Int):Int) ≠ 0):=of_decide_eq_false hc5
 refine c_cond_f (t:=false) (.tmp rfl (cVb hc5)) rfl ?_
 refine c_exit (x_then (x_then (x_here (n_then (c_seq (c_region (st (v:=v) (x_move (.tmp rfl hρ3)) ?_)))))))
 refine st (v:=v) (x_assign (.tmp rfl rfl)) ?_
 refine c_nil (n_then (c_ret (leave_ret (res_one (v:=v) rfl (.mk rfl rfl)) ?_)))
 have er:r = 0:=by omega
 have e:lst s = pre:=by rw [hl,er,lst,els_zero,List.append_nil]
 exact ⟨v,rfl,by rw [e]; exact ok,by rw [e]; exact hs4⟩
end Go.Proofs.YtnikcgcbkdeeeaaDoor

set_option linter.unusedVariables false
set_option linter.unusedSimpArgs false
namespace Go.Proofs.YtnikcgcbkdeeeaaDoor
open Go Go.FM Go.Proofs
attribute [local irreducible] wpList wpQuiet Code.wp Calls
set_option maxHeartbeats 8000000 in
theorem bequal_spec {H:Hp} {w:World} {L:List Res} (hs:St H w (L)) {A_a:Option Addr} {n_a c_a:Nat} (a:List Nat) (h_a:By H A_a n_a c_a a) {A_b:Option Addr} {n_b c_b:Nat} (b:List Nat) (h_b:By H A_b n_b c_b b):Calls Tryd.prog 21 #[.slice A_a n_a c_a,.slice A_b n_b c_b] w (fun e w' => e = .returned (.bool (decide (a = b)))∧St H w' (L)):=by
 have:=h_a.len; have:=h_a.le; have:=h_a.bnd
 have:=h_b.len; have:=h_b.le; have:=h_b.bnd
 refine enter (args:=[.slice A_a n_a c_a,.slice A_b n_b c_b]) (N:=10) Tryd.func21 rfl rfl rfl ?_
 refine c_seq (c_region (st (v:=.bool false) (x_assign .const) ?_))
 refine c_nil (n_then (c_seq (c_region (st (v:=.slice A_a n_a c_a) (x_move (.tmp rfl rfl)) ?_))))
 refine st (v:=.string (bstr a)) (h_a.toBs.str Tryd.underlying30 Tryd.underlying5 Tryd.underlying9 hs (.tmp rfl rfl)) ?_
 refine st (v:=.slice A_b n_b c_b) (x_move (.tmp rfl rfl)) ?_
 refine st (v:=.string (bstr b)) (h_b.toBs.str Tryd.underlying30 Tryd.underlying5 Tryd.underlying9 hs (.tmp rfl rfl)) ?_
 refine st (v:=.bool (decide ((bstr a) = (bstr b)))) (x_eqlS (.tmp rfl rfl) (.tmp rfl rfl)) ?_
 refine st (v:=.bool (decide ((bstr a) = (bstr b)))) (x_assign (.tmp rfl rfl)) ?_
 refine c_nil (n_then (c_ret (leave_ret (res_one (v:=.bool (decide ((bstr a) = (bstr b)))) rfl (.mk rfl rfl)) ?_)))
 have hans1:(decide (a = b)) = (decide ((bstr a) = (bstr b))):=(decide_eq_decide.2 (bstr_inj h_a.lt h_b.lt)).symm
 rw [hans1]
 exact ⟨rfl,hs⟩
set_option maxHeartbeats 8000000 in
theorem same_item {H:Hp} {w:World} {L:List Res} (hs:St H w (L)) (a:GItem) {k_a:List Value} (h_a:kItem.rep H a k_a) (b:GItem) {k_b:List Value} (h_b:kItem.rep H b k_b):Calls Tryd.prog 20 #[.agg k_a.toArray,.agg k_b.toArray] w (fun e w' => e = .returned (.bool (decide (a = b)))∧St H w' (L)):=by
 obtain ⟨A3,n4,c5,rfl,⟨b1,b2⟩,hy6⟩:=h_a
 have:=hy6.len; have:=hy6.bnd; have:=hy6.le
 obtain ⟨A9,n10,c11,rfl,⟨b7,b8⟩,hy12⟩:=h_b
 have:=hy12.len; have:=hy12.bnd; have:=hy12.le
 refine enter (args:=[.agg #[.int .i64 a.From,.slice A3 n4 c5],.agg #[.int .i64 b.From,.slice A9 n10 c11]]) (N:=17) Tryd.func20 rfl rfl rfl ?_
 refine c_seq (c_region (st_m (m_box (cs:=[.int .i64 a.From,.slice A3 n4 c5]) hs (v:=.agg #[.int .i64 a.From,.slice A3 n4 c5]) (.tmp rfl rfl) rfl) ?_))
 rintro _ w14 ⟨g13,rfl,hs16⟩
 refine st_m (m_box (cs:=[.int .i64 b.From,.slice A9 n10 c11]) hs16 (v:=.agg #[.int .i64 b.From,.slice A9 n10 c11]) (.tmp rfl rfl) rfl) ?_
 rintro _ w18 ⟨g17,rfl,hs20⟩
 refine st (v:=.bool false) (x_assign .const) ?_
 refine c_nil (n_then (c_seq (c_region (st (v:=.pointer (some ⟨g13,0 + 0,none⟩)) (fa34_0 (.tmp rfl rfl)) ?_))))
 refine st (v:=.int .i64 a.From) (ld3 (.tmp rfl rfl) (hs20.cell 1 rfl (0 + 0) rfl)) ?_
 refine st (v:=.pointer (some ⟨g17,0 + 0,none⟩)) (fa34_0 (.tmp rfl rfl)) ?_
 refine st (v:=.int .i64 b.From) (ld3 (.tmp rfl rfl) (hs20.cell 0 rfl (0 + 0) rfl)) ?_
 refine st (v:=.bool (decide ((a.From:Int) = b.From))) (x_eql (k:=.i64) (a:=a.From) (b:=b.From) (.tmp rfl rfl) (.tmp rfl rfl)) ?_
 refine st (v:=.bool (decide ((a.From:Int) = b.From))) (x_move (.tmp rfl rfl)) ?_
 rcases Bool.eq_false_or_eq_true (decide ((a.From:Int) = b.From)) with hc21 | hc21
 have hp21:(a.From:Int) = b.From:=of_decide_eq_true hc21
 refine g_yes (yk 10 true rfl rfl hc21) ?_
 refine st (v:=.pointer (some ⟨g13,0 + 1,none⟩)) (fa34_1 (.tmp rfl rfl)) ?_
 refine g_yes (yk 10 true rfl rfl hc21) ?_
 refine st (v:=.slice A3 n4 c5) (ld30 (.tmp rfl rfl) (hs20.cell 1 rfl (0 + 1) rfl)) ?_
 refine g_yes (yk 10 true rfl rfl hc21) ?_
 refine st (v:=.pointer (some ⟨g17,0 + 1,none⟩)) (fa34_1 (.tmp rfl rfl)) ?_
 refine g_yes (yk 10 true rfl rfl hc21) ?_
 refine st (v:=.slice A9 n10 c11) (ld30 (.tmp rfl rfl) (hs20.cell 0 rfl (0 + 1) rfl)) ?_
 refine g_yes (yk 10 true rfl rfl hc21) ?_
 refine st_c cb21 .func (evs2 (.tmp rfl rfl) (.tmp rfl rfl)) (bequal_spec hs20 a.M hy6 b.M hy12 ) ?_
 rintro e w22 ⟨rfl,hs23⟩
 refine ⟨_,rfl,?_⟩
 refine st (v:=.bool (decide (a.M = b.M))) (x_pick_t (.tmp rfl (cVb hc21)) (.tmp rfl rfl)) ?_
 refine st (v:=.bool (decide (a.M = b.M))) (x_assign (.tmp rfl rfl)) ?_
 refine c_nil (n_then (c_ret (leave_ret (res_one (v:=.bool (decide (a.M = b.M))) rfl (.mk rfl rfl)) ?_)))
 have hans24:(decide (a = b)) = (decide (a.M = b.M)):=decide_eq_decide.2 ⟨fun h => by rw [h],fun h => item_eq2 (by omega) h⟩
 rw [hans24]
 exact ⟨rfl,hs23.drop.drop⟩
 have hp21:¬ ((a.From:Int) = b.From):=of_decide_eq_false hc21
 refine g_no (yk 10 false rfl rfl hc21) rfl ?_
 refine g_no (yk 10 false rfl rfl hc21) rfl ?_
 refine g_no (yk 10 false rfl rfl hc21) rfl ?_
 refine g_no (yk 10 false rfl rfl hc21) rfl ?_
 refine g_no (yk 10 false rfl rfl hc21) rfl ?_
 refine st (v:=.bool false) (x_pick_f (.tmp rfl (cVb hc21)) .const) ?_
 refine st (v:=.bool false) (x_assign (.tmp rfl rfl)) ?_
 refine c_nil (n_then (c_ret (leave_ret (res_one (v:=.bool false) rfl (.mk rfl rfl)) ?_)))
 have hans25:(decide (a = b)) = false:=decide_eq_false (item_ne_from (by omega))
 rw [hans25]
 exact ⟨rfl,hs20.drop.drop⟩
set_option maxHeartbeats 8000000 in
theorem equalfunc_item {H:Hp} {w:World} {L:List Res} (hs:St H w (L)) {A_a:Option Addr} {n_a c_a:Nat} (a:(List GItem)) (h_a:Sl kItem H A_a n_a c_a a) {A_b:Option Addr} {n_b c_b:Nat} (b:(List GItem)) (h_b:Sl kItem H A_b n_b c_b b) {f_f:Nat} {cap_f:Array Value} (f:GItem → GItem → Bool) (cb_f:Cb Tryd.prog f_f) (h_f:∀ {w:World} {L:List Res} (hs:St H w L) (x0_:GItem) {k_x0_:List Value} (h_x0_:kItem.rep H x0_ k_x0_) (x1_:GItem) {k_x1_:List Value} (h_x1_:kItem.rep H x1_ k_x1_),Calls Tryd.prog f_f (#[.agg k_x0_.toArray,.agg k_x1_.toArray] ++ cap_f) w (fun e w' => e = .returned (.bool (f x0_ x1_))∧St H w' L)):Calls Tryd.prog 19 #[.slice A_a n_a c_a,.slice A_b n_b c_b,.func (.func f_f) #[] cap_f] w (fun e w' => e = .returned (.bool (eqF f a b))∧St H w' (L)):=by
 have:=h_a.len; have:=h_a.le; have:n_a * 32 ≤ 140737488351232:=h_a.bnd
 have:=h_b.len; have:=h_b.le; have:n_b * 32 ≤ 140737488351232:=h_b.bnd
 refine enter (args:=[.slice A_a n_a c_a,.slice A_b n_b c_b,.func (.func f_f) #[] cap_f]) (N:=32) Tryd.func19 rfl rfl rfl ?_
 refine c_seq (c_region (st (v:=.bool false) (x_assign .const) ?_))
 refine c_nil (n_then (c_seq (c_seq (c_region (st (v:=.slice A_a n_a c_a) (x_move (.tmp rfl rfl)) ?_)))))
 refine st (v:=.int .i64 ((n_a:Nat):Int)) (x_len (n:=n_a) Tryd.underlying25 (.tmp rfl rfl)) ?_
 refine st (v:=.slice A_b n_b c_b) (x_move (.tmp rfl rfl)) ?_
 refine st (v:=.int .i64 ((n_b:Nat):Int)) (x_len (n:=n_b) Tryd.underlying25 (.tmp rfl rfl)) ?_
 refine st (v:=.bool (decide ((((n_a:Nat):Int):Int) ≠ ((n_b:Nat):Int)))) (x_neq (k:=.i64) (a:=((n_a:Nat):Int)) (b:=((n_b:Nat):Int)) (.tmp rfl rfl) (.tmp rfl rfl)) ?_
 refine c_nil (n_then ?_)
 rcases Bool.eq_false_or_eq_true (decide ((((n_a:Nat):Int):Int) ≠ ((n_b:Nat):Int))) with hc1 | hc1
 have hp1:(((n_a:Nat):Int):Int) ≠ ((n_b:Nat):Int):=of_decide_eq_true hc1
 refine c_cond_t (t:=true) (.tmp rfl (cVb hc1)) rfl ?_
 refine c_seq (c_region (st (v:=.bool false) (x_assign .const) ?_))
 refine c_nil (n_then (c_ret (r_then (leave_ret (res_one (v:=.bool false) rfl (.mk rfl rfl)) ?_))))
 have hans2:(eqF f a b) = false:=eqF_len (by omega)
 rw [hans2]
 exact ⟨rfl,hs⟩
 have hp1:¬ ((((n_a:Nat):Int):Int) ≠ ((n_b:Nat):Int)):=of_decide_eq_false hc1
 refine c_cond_f (t:=false) (.tmp rfl (cVb hc1)) rfl ?_
 refine c_skip (n_then (c_seq (c_seq (c_region (st (v:=.slice A_a n_a c_a) (x_move (.tmp rfl rfl)) ?_)))))
 refine st (v:=.int .i64 ((n_a:Nat):Int)) (x_len (n:=n_a) Tryd.underlying25 (.tmp rfl rfl)) ?_
 refine st (v:=.int .i64 0) (x_move .const) ?_
 refine c_nil (n_then (c_block (c_loop (fun ρ w mm => ∃ (i:Nat),ρ 1 = .slice A_b n_b c_b∧ρ 2 = .func (.func f_f) #[] cap_f∧ρ 15 = .slice A_a n_a c_a∧ρ 16 = .int .i64 ((n_a:Nat):Int)∧ρ 17 = .int .i64 ((i:Nat):Int)∧(i ≤ n_a)∧(∀ (j:Nat) (x y:GItem),j < i → a[j]? = some x → b[j]? = some y → f x y = true)∧St H w (L)∧mm = n_a - i) _ ⟨0,rfl,rfl,rfl,rfl,rfl,(by omega),(fun j x y h _ _ => absurd h (Nat.not_lt_zero _)),hs,rfl⟩ ?_)))
 rintro ρ w mm ⟨i,hρ4,hρ5,hρ6,hρ7,hρ8,hi,ha,hs9,rfl⟩
 refine c_seq (c_region (st (v:=.bool (decide ((((i:Nat):Int):Int) < ((n_a:Nat):Int)))) (x_lss (k:=.i64) (a:=((i:Nat):Int)) (b:=((n_a:Nat):Int)) (.tmp rfl hρ8) (.tmp rfl hρ7)) ?_))
 refine c_nil (n_then (c_seq ?_))
 rcases Bool.eq_false_or_eq_true (decide ((((i:Nat):Int):Int) < ((n_a:Nat):Int))) with hc10 | hc10
 have hp10:(((i:Nat):Int):Int) < ((n_a:Nat):Int):=of_decide_eq_true hc10
 refine c_cond_t (t:=true) (.tmp rfl (cVb hc10)) rfl ?_
 refine c_skip (n_then (c_seq (c_block (c_seq (c_region (st (v:=.int .i64 ((i:Nat):Int)) (x_move (.tmp rfl hρ8)) ?_))))))
 obtain ⟨e11,b12,o13,cs14,hx15,hA16,hr17,hat18⟩:=h_a.get (i:=i) (by omega)
 obtain ⟨A21,n22,c23,rfl,⟨b19,b20⟩,hy24⟩:=hr17
 have:=hy24.len; have:=hy24.bnd; have:=hy24.le
 have hat18x:∀ {w:World} {L:List Res},St H w L → At w ⟨b12,o13 + i * 2,none⟩ [.int .i64 e11.From,.slice A21 n22 c23]:=fun h => hat18 h
 refine st (v:=.pointer (some ⟨b12,(o13 + i * 2),none⟩)) (ixo25 (.tmp rfl hρ6) hA16 (i:=((i:Nat):Int)) (.tmp rfl hρ8) (by omega) (by omega) (by omega)) ?_
 refine st (v:=.agg #[.int .i64 e11.From,.slice A21 n22 c23]) (ld34 (cs:=[.int .i64 e11.From,.slice A21 n22 c23]) (.tmp rfl rfl) ((hat18x hs9).sub 0 rfl) rfl) ?_
 refine st_m (al34 (cs:=[.int .i64 0,.slice none 0 0]) hs9 rfl) ?_
 rintro _ w26 ⟨g25,rfl,hs28⟩
 refine st (v:=.int .i64 ((i:Nat):Int)) (x_assign (.tmp rfl rfl)) ?_
 refine st_m0 (sto34 (cs':=[.int .i64 e11.From,.slice A21 n22 c23]) (i:=0) hs28 (v:=.agg #[.int .i64 e11.From,.slice A21 n22 c23]) (.tmp rfl rfl) (.tmp rfl rfl) rfl (Nat.le_of_ble_eq_true rfl) (oneA rfl) rfl) ?_
 rintro w29 hs31
 refine c_nil (n_then (c_seq (c_region (st (v:=.slice A_b n_b c_b) (x_move (.tmp rfl hρ4)) ?_))))
 refine st (v:=.int .i64 ((i:Nat):Int)) (x_move (.tmp rfl rfl)) ?_
 obtain ⟨e32,b33,o34,cs35,hx36,hA37,hr38,hat39⟩:=h_b.get (i:=i) (by omega)
 obtain ⟨A42,n43,c44,rfl,⟨b40,b41⟩,hy45⟩:=hr38
 have:=hy45.len; have:=hy45.bnd; have:=hy45.le
 have hat39x:∀ {w:World} {L:List Res},St H w L → At w ⟨b33,o34 + i * 2,none⟩ [.int .i64 e32.From,.slice A42 n43 c44]:=fun h => hat39 h
 refine st (v:=.pointer (some ⟨b33,(o34 + i * 2),none⟩)) (ixo25 (.tmp rfl rfl) hA37 (i:=((i:Nat):Int)) (.tmp rfl rfl) (by omega) (by omega) (by omega)) ?_
 refine st (v:=.agg #[.int .i64 e32.From,.slice A42 n43 c44]) (ld34 (cs:=[.int .i64 e32.From,.slice A42 n43 c44]) (.tmp rfl rfl) ((hat39x hs31).sub 0 rfl) rfl) ?_
 refine st_m (al34 (cs:=[.int .i64 0,.slice none 0 0]) hs31 rfl) ?_
 rintro _ w47 ⟨g46,rfl,hs49⟩
 refine st_m0 (sto34 (cs':=[.int .i64 e32.From,.slice A42 n43 c44]) (i:=0) hs49 (v:=.agg #[.int .i64 e32.From,.slice A42 n43 c44]) (.tmp rfl rfl) (.tmp rfl rfl) rfl (Nat.le_of_ble_eq_true rfl) (oneA rfl) rfl) ?_
 rintro w50 hs52
 refine c_nil (n_then (c_seq (c_region (st (v:=.func (.func f_f) #[] cap_f) (x_move (.tmp rfl hρ5)) ?_))))
 refine st (v:=.agg #[.int .i64 e11.From,.slice A21 n22 c23]) (ld34 (cs:=[.int .i64 e11.From,.slice A21 n22 c23]) (.tmp rfl rfl) (hs52.at_ 1 rfl (0) rfl) rfl) ?_
 refine st (v:=.agg #[.int .i64 e32.From,.slice A42 n43 c44]) (ld34 (cs:=[.int .i64 e32.From,.slice A42 n43 c44]) (.tmp rfl rfl) (hs52.at_ 0 rfl (0) rfl) rfl) ?_
 have hr53:kItem.rep H e11 [.int .i64 e11.From,.slice A21 n22 c23]:=⟨A21,n22,c23,rfl,⟨b19,b20⟩,hy24⟩
 have hr54:kItem.rep H e32 [.int .i64 e32.From,.slice A42 n43 c44]:=⟨A42,n43,c44,rfl,⟨b40,b41⟩,hy45⟩
 refine st_cc cb_f (.tmp rfl rfl) (evs2 (.tmp rfl rfl) (.tmp rfl rfl)) rfl (h_f hs52 e11 hr53 e32 hr54) ?_
 rintro e w55 ⟨rfl,hs56⟩
 refine ⟨_,rfl,?_⟩
 refine st (v:=.bool (!(f e11 e32))) (x_not (.tmp rfl rfl)) ?_
 refine c_nil (n_then ?_)
 rcases Bool.eq_false_or_eq_true (f e11 e32) with hc57 | hc57
 refine c_cond_f (t:=false) (.tmp rfl (cVb (by rw [hc57]; rfl))) rfl ?_
 refine c_skip (n_block (n_then (c_region (st (v:=.int .i64 (((i + 1):Nat):Int)) (x_add (k:=.i64) (a:=((i:Nat):Int)) (b:=1) (.tmp rfl hρ8) .const ((w64 (by omega) (by omega)).trans (by omega))) ?_))))
 refine st (v:=.int .i64 (((i + 1):Nat):Int)) (x_move (.tmp rfl rfl)) ?_
 refine c_nil ?_
 refine n_then ⟨_,_,rfl,?_,(i + 1),hρ4,hρ5,hρ6,hρ7,rfl,(by omega),(eqF_next ha hx15 hx36 hc57),hs56.drop.drop,rfl⟩
 omega
 refine c_cond_t (t:=true) (.tmp rfl (cVb (by rw [hc57]; rfl))) rfl ?_
 refine c_seq (c_region (st (v:=.bool false) (x_assign .const) ?_))
 refine c_nil (n_then (c_ret (r_block (r_then (r_then (r_block (r_then (leave_ret (res_one (v:=.bool false) rfl (.mk rfl rfl)) ?_))))))))
 have hans58:(eqF f a b) = false:=eqF_no hx15 hx36 hc57
 rw [hans58]
 exact ⟨rfl,hs56.drop.drop⟩
 have hp10:¬ ((((i:Nat):Int):Int) < ((n_a:Nat):Int)):=of_decide_eq_false hc10
 refine c_cond_f (t:=false) (.tmp rfl (cVb hc10)) rfl ?_
 refine c_exit (x_then (x_then (x_here (n_then (c_seq (c_region (st (v:=.bool true) (x_assign .const) ?_)))))))
 refine c_nil (n_then (c_ret (leave_ret (res_one (v:=.bool true) rfl (.mk rfl rfl)) ?_)))
 have hans59:(eqF f a b) = true:=eqF_yes (by omega) ha (by omega)
 rw [hans59]
 exact ⟨rfl,hs9⟩
set_option maxHeartbeats 8000000 in
theorem clone_item {H:Hp} {w:World} {L:List Res} (hs:St H w (L)) {A_l:Option Addr} {n_l c_l:Nat} (l:(List GItem)) (h_l:Sl kItem H A_l n_l c_l l):Calls Tryd.prog 22 #[.slice A_l n_l c_l] w (fun e w' => ∃ (v0:Value) (cs0:List Value),e = .returned (v0)∧RowOk kItem.sz v0 (l).length cs0∧kItem.toKn.rows H (l) cs0∧St H w' (row 34 kItem.sz v0 (l).length cs0::L)):=by
 have:=h_l.len; have:=h_l.le; have:n_l * 32 ≤ 140737488351232:=h_l.bnd
 refine enter (args:=[.slice A_l n_l c_l]) (N:=8) Tryd.func22 rfl rfl rfl ?_
 refine c_seq (c_region (st (v:=.slice none 0 0) (x_assign .const) ?_))
 refine c_nil (n_then (c_seq (c_seq (c_region (st (v:=.slice A_l n_l c_l) (x_move (.tmp rfl rfl)) ?_)))))
 refine st (v:=.bool (A_l.isNone)) (x_eqlSN Tryd.underlying25 (.tmp rfl rfl) .const) ?_
 refine c_nil (n_then ?_)
 rcases Bool.eq_false_or_eq_true (A_l.isNone) with hc1 | hc1
 refine c_cond_t (t:=true) (.tmp rfl (cVb hc1)) rfl ?_
 refine c_seq (c_region (st (v:=.slice none 0 0) (x_assign .const) ?_))
 refine c_nil (n_then (c_ret (r_then (leave_ret (res_one (v:=.slice none 0 0) rfl (.mk rfl rfl)) ?_))))
 obtain rfl:l = []:=h_l.isNone hc1
 have hs2:St H _ (row 34 2 (.slice none 0 0) (([]:List GItem).length) []::L):=hs.krowNil 34 kItem
 exact ⟨(.slice none 0 0),[],rfl,(RowOk.knil kItem),(Kn.rows_nil _ _),hs2⟩
 refine c_cond_f (t:=false) (.tmp rfl (cVb hc1)) rfl ?_
 refine c_skip (n_then (c_seq (c_region (st_m (m_lit0 Tryd.underlying25 inf34 hs) ?_))))
 rintro _ w5 ⟨g4,rfl,hs6⟩
 obtain ⟨hs7,ok8⟩:=hs6.krow0 (d:=kItem)
 have:([]:List GItem).length = 0:=rfl
 refine st (v:=.slice A_l n_l c_l) (x_move (.tmp rfl rfl)) ?_
 refine st_m (m_appSl (d:=kItem) (ys:=l) Tryd.underlying25 inf34 rfl hs7 ok8 (Kn.rows_nil _ _) (.tmp rfl rfl) (.tmp rfl rfl) h_l (by omega) (by decide)) ?_
 rintro v10 w11 ⟨cs12,ok13,hk14,hs15⟩
 have hn16:(([]:List GItem) ++ l).length = ([]:List GItem).length + n_l:=by rw [List.length_append,h_l.len]
 have hn16:l.length = n_l:=h_l.len
 have ok13:RowOk kItem.sz v10 l.length cs12:=ok13
 have hk14:kItem.toKn.rows H l cs12:=hk14
 have hs15:St H _ (row 34 2 v10 l.length cs12::L):=hs15
 refine st (v:=v10) (x_assign (.tmp rfl rfl)) ?_
 refine c_nil (n_then (c_ret (leave_ret (res_one (v:=v10) rfl (.mk rfl rfl)) ?_)))
 rw [List.nil_append] at *
 exact ⟨v10,cs12,rfl,ok13,hk14,hs15⟩
end Go.Proofs.YtnikcgcbkdeeeaaDoor

set_option linter.unusedVariables false
set_option linter.unusedSimpArgs false
namespace Go.Proofs.YtnikcgcbkdeeeaaDoor
open Go Go.FM Go.Proofs
attribute [local irreducible] wpList wpQuiet Code.wp Calls
set_option maxHeartbeats 8000000 in
theorem total_spec {H:Hp} {w:World} {L:List Res} (hs:St H w (L)) {A_acc:Option Addr} {n_acc c_acc:Nat} (acc:(List (List (List Nat)))) (h_acc:Sl (kSl kBs) H A_acc n_acc c_acc acc) {A_del:Option Addr} {n_del c_del:Nat} (del:(List (List GItem))) (h_del:Sl (kSl kItem) H A_del n_del c_del del):Calls Tryd.prog 11 #[.slice A_acc n_acc c_acc,.slice A_del n_del c_del] w (fun e w' => ∃ (v0:Value) (cs0:List Value),e = .returned (.tuple #[v0,.bool ((totS acc del).2)])∧RowOk kItem.sz v0 ((totS acc del).1).length cs0∧kItem.toKn.rows H ((totS acc del).1) cs0∧St H w' (row 34 kItem.sz v0 ((totS acc del).1).length cs0::L)):=by
 have:=h_acc.len; have:=h_acc.le; have:n_acc * 24 ≤ 140737488351232:=h_acc.bnd
 have:=h_del.len; have:=h_del.le; have:n_del * 24 ≤ 140737488351232:=h_del.bnd
 refine enter (args:=[.slice A_acc n_acc c_acc,.slice A_del n_del c_del]) (N:=102) Tryd.func11 rfl rfl rfl ?_
 refine c_seq (c_region (st (v:=.slice none 0 0) (x_assign .const) ?_))
 refine st (v:=.bool false) (x_assign .const) ?_
 refine c_nil (n_then (c_seq (c_region (st (v:=.slice none 0 0) (x_assign .const) ?_))))
 refine c_nil (n_then (c_seq (c_seq (c_region (st (v:=.slice A_del n_del c_del) (x_move (.tmp rfl rfl)) ?_)))))
 refine st (v:=.int .i64 ((n_del:Nat):Int)) (x_len (n:=n_del) Tryd.underlying23 (.tmp rfl rfl)) ?_
 refine st (v:=.int .i64 0) (x_move .const) ?_
 refine c_nil (n_then (c_block (c_loop (fun ρ w mm => ∃ (i:Nat) (A_long:Option Addr) (n_long:Nat) (k_long:Nat) (long:List GItem),ρ 0 = .slice A_acc n_acc c_acc∧ρ 1 = .slice A_del n_del c_del∧ρ 6 = .slice A_long n_long k_long∧ρ 14 = .slice A_del n_del c_del∧ρ 15 = .int .i64 ((n_del:Nat):Int)∧ρ 16 = .int .i64 ((i:Nat):Int)∧(Sl kItem H A_long n_long k_long long)∧(i ≤ n_del)∧(long = longTo del i)∧St H w (L)∧mm = n_del - i) _ ⟨0,none,0,0,[],rfl,rfl,rfl,rfl,rfl,rfl,(Sl.nil _ _ none),(by omega),rfl,hs,rfl⟩ ?_)))
 rintro ρ w mm ⟨i,A_long,n_long,k_long,long,hρ2,hρ3,hρ4,hρ5,hρ6,hρ7,sp_long,hi,hl,hs8,rfl⟩
 have:=sp_long.len; have:=sp_long.le
 refine c_seq (c_region (st (v:=.bool (decide ((((i:Nat):Int):Int) < ((n_del:Nat):Int)))) (x_lss (k:=.i64) (a:=((i:Nat):Int)) (b:=((n_del:Nat):Int)) (.tmp rfl hρ7) (.tmp rfl hρ6)) ?_))
 refine c_nil (n_then (c_seq ?_))
 rcases Bool.eq_false_or_eq_true (decide ((((i:Nat):Int):Int) < ((n_del:Nat):Int))) with hc9 | hc9
 have hp9:(((i:Nat):Int):Int) < ((n_del:Nat):Int):=of_decide_eq_true hc9
 refine c_cond_t (t:=true) (.tmp rfl (cVb hc9)) rfl ?_
 refine c_skip (n_then (c_seq (c_block (c_seq (c_region ?_)))))
 obtain ⟨e10,b11,o12,cs13,hx14,hA15,hr16,hat17⟩:=h_del.get (i:=i) (by omega)
 obtain ⟨A18,n19,c20,rfl,hl21⟩:=hr16
 have:=hl21.len; have:n19 * 32 ≤ 140737488351232:=hl21.bnd; have:=hl21.le
 have hat17x:∀ {w:World} {L:List Res},St H w L → At w ⟨b11,o12 + i * 1,none⟩ [.slice A18 n19 c20]:=fun h => hat17 h
 refine st (v:=.pointer (some ⟨b11,(o12 + i * 1),none⟩)) (ixo23 (.tmp rfl hρ5) hA15 (i:=((i:Nat):Int)) (.tmp rfl hρ7) (by omega) (by omega) (by omega)) ?_
 refine st (v:=.slice A18 n19 c20) (ld25 (.tmp rfl rfl) ((hat17x hs8).cell 0 rfl)) ?_
 refine st (v:=.slice A18 n19 c20) (x_assign (.tmp rfl rfl)) ?_
 refine c_nil (n_then (c_seq (c_region (st (v:=.slice A18 n19 c20) (x_move (.tmp rfl rfl)) ?_))))
 refine st (v:=.int .i64 ((n19:Nat):Int)) (x_len (n:=n19) Tryd.underlying25 (.tmp rfl rfl)) ?_
 refine st (v:=.slice A_long n_long k_long) (x_move (.tmp rfl hρ4)) ?_
 refine st (v:=.int .i64 ((n_long:Nat):Int)) (x_len (n:=n_long) Tryd.underlying25 (.tmp rfl rfl)) ?_
 refine st (v:=.bool (decide ((((n_long:Nat):Int):Int) < ((n19:Nat):Int)))) (x_gtr (k:=.i64) (a:=((n19:Nat):Int)) (b:=((n_long:Nat):Int)) (.tmp rfl rfl) (.tmp rfl rfl)) ?_
 refine c_nil (n_then ?_)
 rcases Bool.eq_false_or_eq_true (decide ((((n_long:Nat):Int):Int) < ((n19:Nat):Int))) with hc22 | hc22
 have hp22:(((n_long:Nat):Int):Int) < ((n19:Nat):Int):=of_decide_eq_true hc22
 refine c_cond_t (t:=true) (.tmp rfl (cVb hc22)) rfl ?_
 refine c_region (st (v:=.slice A18 n19 c20) (x_move (.tmp rfl rfl)) ?_)
 refine st (v:=.slice A18 n19 c20) (x_assign (.tmp rfl rfl)) ?_
 refine c_nil (n_block (n_then (c_region (st (v:=.int .i64 (((i + 1):Nat):Int)) (x_add (k:=.i64) (a:=((i:Nat):Int)) (b:=1) (.tmp rfl hρ7) .const ((w64 (by omega) (by omega)).trans (by omega))) ?_))))
 refine st (v:=.int .i64 (((i + 1):Nat):Int)) (x_move (.tmp rfl rfl)) ?_
 refine c_nil ?_
 refine n_then ⟨_,_,rfl,?_,(i + 1),A18,n19,c20,e10,hρ2,hρ3,rfl,hρ5,hρ6,rfl,hl21,(by omega),(by rw [longTo_next hx14,← hl]; unfold longStep; rw [if_pos (by omega)]),hs8,rfl⟩
 omega
 have hp22:¬ ((((n_long:Nat):Int):Int) < ((n19:Nat):Int)):=of_decide_eq_false hc22
 refine c_cond_f (t:=false) (.tmp rfl (cVb hc22)) rfl ?_
 refine c_skip (n_block (n_then (c_region (st (v:=.int .i64 (((i + 1):Nat):Int)) (x_add (k:=.i64) (a:=((i:Nat):Int)) (b:=1) (.tmp rfl hρ7) .const ((w64 (by omega) (by omega)).trans (by omega))) ?_))))
 refine st (v:=.int .i64 (((i + 1):Nat):Int)) (x_move (.tmp rfl rfl)) ?_
 refine c_nil ?_
 refine n_then ⟨_,_,rfl,?_,(i + 1),A_long,n_long,k_long,long,hρ2,hρ3,hρ4,hρ5,hρ6,rfl,sp_long,(by omega),(by rw [longTo_next hx14,← hl]; unfold longStep; rw [if_neg (by omega)]),hs8,rfl⟩
 omega
 have hp9:¬ ((((i:Nat):Int):Int) < ((n_del:Nat):Int)):=of_decide_eq_false hc9
 refine c_cond_f (t:=false) (.tmp rfl (cVb hc9)) rfl ?_
 refine c_exit (x_then (x_then (x_here (n_then (c_seq (c_seq (c_region ?_)))))))
 have hL:long = longS del:=by rw [hl]; unfold longS; rw [show i = del.length by omega]
 refine st (v:=.slice A_del n_del c_del) (x_move (.tmp rfl hρ3)) ?_
 refine st (v:=.int .i64 ((n_del:Nat):Int)) (x_len (n:=n_del) Tryd.underlying23 (.tmp rfl rfl)) ?_
 refine st (v:=.int .i64 0) (x_move .const) ?_
 refine c_nil (n_then (c_block (c_loop (fun ρ w mm => ∃ (q:Nat),ρ 0 = .slice A_acc n_acc c_acc∧ρ 6 = .slice A_long n_long k_long∧ρ 27 = .slice A_del n_del c_del∧ρ 28 = .int .i64 ((n_del:Nat):Int)∧ρ 29 = .int .i64 ((q:Nat):Int)∧(q ≤ n_del)∧(∀ (j:Nat) (y:List GItem),j < q → del[j]? = some y → decide (y = long.take y.length) = true)∧St H w (L)∧mm = n_del - q) _ ⟨0,hρ2,hρ4,rfl,rfl,rfl,(by omega),(fun j y h _ => absurd h (Nat.not_lt_zero _)),hs8,rfl⟩ ?_)))
 rintro ρ w mm ⟨q,hρ24,hρ25,hρ26,hρ27,hρ28,hq,ha,hs29,rfl⟩
 refine c_seq (c_region (st (v:=.bool (decide ((((q:Nat):Int):Int) < ((n_del:Nat):Int)))) (x_lss (k:=.i64) (a:=((q:Nat):Int)) (b:=((n_del:Nat):Int)) (.tmp rfl hρ28) (.tmp rfl hρ27)) ?_))
 refine c_nil (n_then (c_seq ?_))
 rcases Bool.eq_false_or_eq_true (decide ((((q:Nat):Int):Int) < ((n_del:Nat):Int))) with hc30 | hc30
 have hp30:(((q:Nat):Int):Int) < ((n_del:Nat):Int):=of_decide_eq_true hc30
 refine c_cond_t (t:=true) (.tmp rfl (cVb hc30)) rfl ?_
 refine c_skip (n_then (c_seq (c_block (c_seq (c_region ?_)))))
 obtain ⟨e31,b32,o33,cs34,hx35,hA36,hr37,hat38⟩:=h_del.get (i:=q) (by omega)
 obtain ⟨A39,n40,c41,rfl,hl42⟩:=hr37
 have:=hl42.len; have:n40 * 32 ≤ 140737488351232:=hl42.bnd; have:=hl42.le
 have hat38x:∀ {w:World} {L:List Res},St H w L → At w ⟨b32,o33 + q * 1,none⟩ [.slice A39 n40 c41]:=fun h => hat38 h
 have hge:=long_ge hx35
 rw [← hL] at hge
 refine st (v:=.pointer (some ⟨b32,(o33 + q * 1),none⟩)) (ixo23 (.tmp rfl hρ26) hA36 (i:=((q:Nat):Int)) (.tmp rfl hρ28) (by omega) (by omega) (by omega)) ?_
 refine st (v:=.slice A39 n40 c41) (ld25 (.tmp rfl rfl) ((hat38x hs29).cell 0 rfl)) ?_
 refine st (v:=.slice A39 n40 c41) (x_assign (.tmp rfl rfl)) ?_
 refine c_nil (n_then (c_seq (c_region (st (v:=.slice A39 n40 c41) (x_move (.tmp rfl rfl)) ?_))))
 refine st (v:=.slice A_long n_long k_long) (x_move (.tmp rfl hρ25)) ?_
 refine st (v:=.slice A39 n40 c41) (x_move (.tmp rfl rfl)) ?_
 refine st (v:=.int .i64 ((n40:Nat):Int)) (x_len (n:=n40) Tryd.underlying25 (.tmp rfl rfl)) ?_
 refine st (v:=.slice A_long n40 k_long) (sl_h (d:=kItem) Tryd.underlying25 inf34 (a:=((n40:Nat):Int)) (.tmp rfl rfl) (.tmp rfl rfl) (by omega) (by omega)) ?_
 refine st_c cb19 .func (evs3 (.tmp rfl rfl) (.tmp rfl rfl) .func) (equalfunc_item hs29 e31 hl42 (long.take n40) (sp_long.take (k:=n40) (by omega)) (fun (y0:GItem) (y1:GItem) => (decide (y0 = y1))) cb20 (fun {_} {_} hs y0 {_} h0 y1 {_} h1 => same_item hs y0 h0 y1 h1 ) ) ?_
 rintro e w43 ⟨rfl,hs44⟩
 refine ⟨_,rfl,?_⟩
 refine st (v:=.bool (!(eqF (fun (y0:GItem) (y1:GItem) => (decide (y0 = y1))) e31 (long.take n40)))) (x_not (.tmp rfl rfl)) ?_
 refine c_nil (n_then ?_)
 rcases Bool.eq_false_or_eq_true (eqF (fun (y0:GItem) (y1:GItem) => (decide (y0 = y1))) e31 (long.take n40)) with hc45 | hc45
 refine c_cond_f (t:=false) (.tmp rfl (cVb (by rw [hc45]; rfl))) rfl ?_
 refine c_skip (n_block (n_then (c_region (st (v:=.int .i64 (((q + 1):Nat):Int)) (x_add (k:=.i64) (a:=((q:Nat):Int)) (b:=1) (.tmp rfl hρ28) .const ((w64 (by omega) (by omega)).trans (by omega))) ?_))))
 refine st (v:=.int .i64 (((q + 1):Nat):Int)) (x_move (.tmp rfl rfl)) ?_
 refine c_nil ?_
 refine n_then ⟨_,_,rfl,?_,(q + 1),hρ24,hρ25,hρ26,hρ27,rfl,(by omega),(next_all ha hx35 (by have h9:=hc45; rw [eqF_dec,show n40 = e31.length by omega] at h9; exact h9)),hs44,rfl⟩
 omega
 refine c_cond_t (t:=true) (.tmp rfl (cVb (by rw [hc45]; rfl))) rfl ?_
 refine c_seq (c_region (st (v:=.slice none 0 0) (x_assign .const) ?_))
 refine st (v:=.bool false) (x_assign .const) ?_
 refine c_nil (n_then (c_ret (r_block (r_then (r_then (r_block (r_then (leave_ret (res_two (v:=.slice none 0 0) (u:=.bool false) rfl (.mk rfl rfl) (.mk rfl rfl)) ?_))))))))
 have hans46:totS acc del = ([],false):=totS_no1 (by rw [← hL]; exact preS_no hx35 (of_decide_eq_false (by have h9:=hc45; rw [eqF_dec,show n40 = e31.length by omega] at h9; exact h9)))
 rw [hans46]
 have hs47:St H _ (row 34 2 (.slice none 0 0) (([]:List GItem).length) []::L):=hs44.krowNil 34 kItem
 exact ⟨(.slice none 0 0),[],rfl,(RowOk.knil kItem),(Kn.rows_nil _ _),hs47⟩
 have hp30:¬ ((((q:Nat):Int):Int) < ((n_del:Nat):Int)):=of_decide_eq_false hc30
 refine c_cond_f (t:=false) (.tmp rfl (cVb hc30)) rfl ?_
 refine c_exit (x_then (x_then (x_here (n_then (c_seq (c_region (st (v:=.slice A_acc n_acc c_acc) (x_move (.tmp rfl hρ24)) ?_)))))))
 refine st (v:=.int .i64 ((n_acc:Nat):Int)) (x_len (n:=n_acc) Tryd.underlying22 (.tmp rfl rfl)) ?_
 have hr55:kI.rep H 0 [.int .i64 0]:=⟨rfl,(show IB 0 from ⟨by omega,by omega⟩)⟩
 refine st_m (m_makeK (d:=kI) (y0:=0) (i:=((n_acc:Nat):Int)) Tryd.underlying31 inf3 hr55 hs29 (.tmp rfl rfl) (.tmp rfl rfl) (by omega) (by omega) (by decide)) ?_
 rintro v49 w50 ⟨cs51,ok52,hk53,hs54⟩
 have hn57:(List.replicate n_acc (0:Int)).length = n_acc:=by simp
 refine st (v:=v49) (x_assign (.tmp rfl rfl)) ?_
 refine c_nil (n_then (c_seq (c_seq (c_region (st (v:=.slice A_long n_long k_long) (x_move (.tmp rfl hρ25)) ?_)))))
 refine st (v:=.int .i64 ((n_long:Nat):Int)) (x_len (n:=n_long) Tryd.underlying25 (.tmp rfl rfl)) ?_
 refine st (v:=.int .i64 0) (x_move .const) ?_
 refine c_nil (n_then (c_block (c_loop (fun ρ w mm => ∃ (k:Nat) (at_:List Int) (v_at_:Value) (c_at_:List Value),ρ 0 = .slice A_acc n_acc c_acc∧ρ 6 = .slice A_long n_long k_long∧ρ 11 = v_at_∧ρ 44 = .slice A_long n_long k_long∧ρ 45 = .int .i64 ((n_long:Nat):Int)∧ρ 46 = .int .i64 ((k:Nat):Int)∧(RowOk kI.sz v_at_ at_.length c_at_)∧(kI.toKn.rows H at_ c_at_)∧(k ≤ n_long)∧(at_ = cntL n_acc (long.take k))∧(∀ j,j < k → okAt acc long j = true)∧St H w (row 3 1 v_at_ at_.length c_at_::L)∧mm = n_long - k) _ ⟨0,(List.replicate n_acc (0:Int)),v49,cs51,hρ24,hρ25,rfl,rfl,rfl,rfl,ok52,hk53,(by omega),(by rw [List.take_zero]; exact (cntL_nil _).symm),(fun j h => absurd h (Nat.not_lt_zero _)),hs54,rfl⟩ ?_)))
 rintro ρ w mm ⟨k,at_,v_at_,c_at_,hρ60,hρ61,hρ62,hρ63,hρ64,hρ65,ok_at_,hk_at_,hk,hat,hok,hs66,rfl⟩
 refine c_seq (c_region (st (v:=.bool (decide ((((k:Nat):Int):Int) < ((n_long:Nat):Int)))) (x_lss (k:=.i64) (a:=((k:Nat):Int)) (b:=((n_long:Nat):Int)) (.tmp rfl hρ65) (.tmp rfl hρ64)) ?_))
 refine c_nil (n_then (c_seq ?_))
 rcases Bool.eq_false_or_eq_true (decide ((((k:Nat):Int):Int) < ((n_long:Nat):Int))) with hc67 | hc67
 have hp67:(((k:Nat):Int):Int) < ((n_long:Nat):Int):=of_decide_eq_true hc67
 refine c_cond_t (t:=true) (.tmp rfl (cVb hc67)) rfl ?_
 refine c_skip (n_then (c_seq (c_block (c_seq (c_region ?_)))))
 have hlb:n_long * 32 ≤ 140737488351232:=sp_long.bnd
 have hal:at_.length = n_acc:=by rw [hat]; exact cntL_len _ _
 obtain ⟨e68,b69,o70,cs71,hx72,hA73,hr74,hat75⟩:=sp_long.get (i:=k) (by omega)
 obtain ⟨A78,n79,c80,rfl,⟨b76,b77⟩,hy81⟩:=hr74
 have:=hy81.len; have:=hy81.bnd; have:=hy81.le
 have hat75x:∀ {w:World} {L:List Res},St H w L → At w ⟨b69,o70 + k * 2,none⟩ [.int .i64 e68.From,.slice A78 n79 c80]:=fun h => hat75 h
 refine st (v:=.pointer (some ⟨b69,(o70 + k * 2),none⟩)) (ixo25 (.tmp rfl hρ63) hA73 (i:=((k:Nat):Int)) (.tmp rfl hρ65) (by omega) (by omega) (by omega)) ?_
 refine st (v:=.agg #[.int .i64 e68.From,.slice A78 n79 c80]) (ld34 (cs:=[.int .i64 e68.From,.slice A78 n79 c80]) (.tmp rfl rfl) ((hat75x hs66).sub 0 rfl) rfl) ?_
 refine st_m (al34 (cs:=[.int .i64 0,.slice none 0 0]) hs66 rfl) ?_
 rintro _ w83 ⟨g82,rfl,hs85⟩
 refine st_m0 (sto34 (cs':=[.int .i64 e68.From,.slice A78 n79 c80]) (i:=0) hs85 (v:=.agg #[.int .i64 e68.From,.slice A78 n79 c80]) (.tmp rfl rfl) (.tmp rfl rfl) rfl (Nat.le_of_ble_eq_true rfl) (oneA rfl) rfl) ?_
 rintro w86 hs88
 refine c_nil (n_then (c_seq (c_seq (q_region mixed hs88 (by kernel_rfl) ?_))))
 refine q_st (v:=.pointer (some ⟨g82,0 + 0,none⟩)) (fun w hs => (fa34_0 (.tmp rfl rfl))) ?_
 refine q_st (v:=.int .i64 e68.From) (fun w hs => (ld3 (.tmp rfl rfl) (hs.cell 0 rfl (0 + 0) rfl))) ?_
 refine q_st (v:=.bool (decide ((e68.From:Int) < 0))) (fun w hs => (x_lss (k:=.i64) (a:=e68.From) (b:=0) (.tmp rfl rfl) .const)) ?_
 refine q_st (v:=.bool (decide ((e68.From:Int) < 0))) (fun w hs => (x_move (.tmp rfl rfl))) ?_
 rcases Bool.eq_false_or_eq_true (decide ((e68.From:Int) < 0)) with hc89 | hc89
 have hp89:(e68.From:Int) < 0:=of_decide_eq_true hc89
 refine q_no (yk 53 true rfl rfl hc89) rfl ?_
 refine q_no (yk 53 true rfl rfl hc89) rfl ?_
 refine q_no (yk 53 true rfl rfl hc89) rfl ?_
 refine q_no (yk 53 true rfl rfl hc89) rfl ?_
 refine q_no (yk 53 true rfl rfl hc89) rfl ?_
 refine q_st (v:=.bool true) (fun w hs => (x_pick_t (.tmp rfl (cVb hc89)) .const)) ?_
 refine q_st (v:=.bool true) (fun w hs => (x_move (.tmp rfl rfl))) ?_
 refine q_no (yl (dj:=60) (b:=true) rfl rfl rfl) rfl ?_
 refine q_no (yl (dj:=60) (b:=true) rfl rfl rfl) rfl ?_
 refine q_no (yl (dj:=60) (b:=true) rfl rfl rfl) rfl ?_
 refine q_no (yl (dj:=60) (b:=true) rfl rfl rfl) rfl ?_
 refine q_no (yl (dj:=60) (b:=true) rfl rfl rfl) rfl ?_
 refine q_no (yl (dj:=60) (b:=true) rfl rfl rfl) rfl ?_
 refine q_no (yl (dj:=60) (b:=true) rfl rfl rfl) rfl ?_
 refine q_no (yl (dj:=60) (b:=true) rfl rfl rfl) rfl ?_
 refine q_no (yl (dj:=60) (b:=true) rfl rfl rfl) rfl ?_
 refine q_no (yl (dj:=60) (b:=true) rfl rfl rfl) rfl ?_
 refine q_no (yl (dj:=60) (b:=true) rfl rfl rfl) rfl ?_
 refine q_no (yl (dj:=60) (b:=true) rfl rfl rfl) rfl ?_
 refine q_st (v:=.bool true) (fun w hs => (x_pick_t (.tmp rfl rfl) .const)) ?_
 refine q_st (v:=.bool true) (fun w hs => (x_move (.tmp rfl rfl))) ?_
 refine q_no (yl (dj:=74) (b:=true) rfl rfl rfl) rfl ?_
 refine q_no (yl (dj:=74) (b:=true) rfl rfl rfl) rfl ?_
 refine q_no (yl (dj:=74) (b:=true) rfl rfl rfl) rfl ?_
 refine q_no (yl (dj:=74) (b:=true) rfl rfl rfl) rfl ?_
 refine q_no (yl (dj:=74) (b:=true) rfl rfl rfl) rfl ?_
 refine q_no (yl (dj:=74) (b:=true) rfl rfl rfl) rfl ?_
 refine q_no (yl (dj:=74) (b:=true) rfl rfl rfl) rfl ?_
 refine q_no (yl (dj:=74) (b:=true) rfl rfl rfl) rfl ?_
 refine q_no (yl (dj:=74) (b:=true) rfl rfl rfl) rfl ?_
 refine q_no (yl (dj:=74) (b:=true) rfl rfl rfl) rfl ?_
 refine q_no (yl (dj:=74) (b:=true) rfl rfl rfl) rfl ?_
 refine q_no (yl (dj:=74) (b:=true) rfl rfl rfl) rfl ?_
 refine q_no (yl (dj:=74) (b:=true) rfl rfl rfl) rfl ?_
 refine q_no (yl (dj:=74) (b:=true) rfl rfl rfl) rfl ?_
 refine q_no (yl (dj:=74) (b:=true) rfl rfl rfl) rfl ?_
 refine q_no (yl (dj:=74) (b:=true) rfl rfl rfl) rfl ?_
 refine q_st (v:=.bool true) (fun w hs => (x_pick_t (.tmp rfl rfl) .const)) ?_
 refine q_nil ?_
 intro w hs90
 refine n_then (c_cond_t (t:=true) (.tmp rfl rfl) rfl ?_)
 refine c_seq (c_region (st (v:=.slice none 0 0) (x_assign .const) ?_))
 refine st (v:=.bool false) (x_assign .const) ?_
 refine c_nil (n_then (c_ret (r_then (r_block (r_then (r_then (r_block (r_then (leave_ret (res_two (v:=.slice none 0 0) (u:=.bool false) rfl (.mk rfl rfl) (.mk rfl rfl)) ?_)))))))))
 have hans91:totS acc del = ([],false):=totS_no2 (by rw [← hL]; exact okAll_no (j:=k) (by omega) (okAt_from hx72 (by omega)))
 rw [hans91]
 have hs92:St H _ (row 34 2 (.slice none 0 0) (([]:List GItem).length) []::obj g82 34 [.int .i64 e68.From,.slice A78 n79 c80]::row 3 1 v_at_ at_.length c_at_::L):=hs90.krowNil 34 kItem
 exact ⟨(.slice none 0 0),[],rfl,(RowOk.knil kItem),(Kn.rows_nil _ _),((hs92.p1).drop.p1).drop⟩
 have hp89:¬ ((e68.From:Int) < 0):=of_decide_eq_false hc89
 refine q_yes (yk 53 false rfl rfl hc89) ?_
 refine q_st (v:=.pointer (some ⟨g82,0 + 0,none⟩)) (fun w hs => (fa34_0 (.tmp rfl rfl))) ?_
 refine q_yes (yk 53 false rfl rfl hc89) ?_
 refine q_st (v:=.int .i64 e68.From) (fun w hs => (ld3 (.tmp rfl rfl) (hs.cell 0 rfl (0 + 0) rfl))) ?_
 refine q_yes (yk 53 false rfl rfl hc89) ?_
 refine q_st (v:=.slice A_acc n_acc c_acc) (fun w hs => (x_move (.tmp rfl hρ60))) ?_
 refine q_yes (yk 53 false rfl rfl hc89) ?_
 refine q_st (v:=.int .i64 ((n_acc:Nat):Int)) (fun w hs => (x_len (n:=n_acc) Tryd.underlying22 (.tmp rfl rfl))) ?_
 refine q_yes (yk 53 false rfl rfl hc89) ?_
 refine q_st (v:=.bool (decide ((((n_acc:Nat):Int):Int) ≤ e68.From))) (fun w hs => (x_geq (k:=.i64) (a:=e68.From) (b:=((n_acc:Nat):Int)) (.tmp rfl rfl) (.tmp rfl rfl))) ?_
 refine q_st (v:=.bool (decide ((((n_acc:Nat):Int):Int) ≤ e68.From))) (fun w hs => (x_pick_f (.tmp rfl (cVb hc89)) (.tmp rfl rfl))) ?_
 refine q_st (v:=.bool (decide ((((n_acc:Nat):Int):Int) ≤ e68.From))) (fun w hs => (x_move (.tmp rfl rfl))) ?_
 rcases Bool.eq_false_or_eq_true (decide ((((n_acc:Nat):Int):Int) ≤ e68.From)) with hc94 | hc94
 have hp94:(((n_acc:Nat):Int):Int) ≤ e68.From:=of_decide_eq_true hc94
 refine q_no (yk 60 true rfl rfl hc94) rfl ?_
 refine q_no (yk 60 true rfl rfl hc94) rfl ?_
 refine q_no (yk 60 true rfl rfl hc94) rfl ?_
 refine q_no (yk 60 true rfl rfl hc94) rfl ?_
 refine q_no (yk 60 true rfl rfl hc94) rfl ?_
 refine q_no (yk 60 true rfl rfl hc94) rfl ?_
 refine q_no (yk 60 true rfl rfl hc94) rfl ?_
 refine q_no (yk 60 true rfl rfl hc94) rfl ?_
 refine q_no (yk 60 true rfl rfl hc94) rfl ?_
 refine q_no (yk 60 true rfl rfl hc94) rfl ?_
 refine q_no (yk 60 true rfl rfl hc94) rfl ?_
 refine q_no (yk 60 true rfl rfl hc94) rfl ?_
 refine q_st (v:=.bool true) (fun w hs => (x_pick_t (.tmp rfl (cVb hc94)) .const)) ?_
 refine q_st (v:=.bool true) (fun w hs => (x_move (.tmp rfl rfl))) ?_
 refine q_no (yl (dj:=74) (b:=true) rfl rfl rfl) rfl ?_
 refine q_no (yl (dj:=74) (b:=true) rfl rfl rfl) rfl ?_
 refine q_no (yl (dj:=74) (b:=true) rfl rfl rfl) rfl ?_
 refine q_no (yl (dj:=74) (b:=true) rfl rfl rfl) rfl ?_
 refine q_no (yl (dj:=74) (b:=true) rfl rfl rfl) rfl ?_
 refine q_no (yl (dj:=74) (b:=true) rfl rfl rfl) rfl ?_
 refine q_no (yl (dj:=74) (b:=true) rfl rfl rfl) rfl ?_
 refine q_no (yl (dj:=74) (b:=true) rfl rfl rfl) rfl ?_
 refine q_no (yl (dj:=74) (b:=true) rfl rfl rfl) rfl ?_
 refine q_no (yl (dj:=74) (b:=true) rfl rfl rfl) rfl ?_
 refine q_no (yl (dj:=74) (b:=true) rfl rfl rfl) rfl ?_
 refine q_no (yl (dj:=74) (b:=true) rfl rfl rfl) rfl ?_
 refine q_no (yl (dj:=74) (b:=true) rfl rfl rfl) rfl ?_
 refine q_no (yl (dj:=74) (b:=true) rfl rfl rfl) rfl ?_
 refine q_no (yl (dj:=74) (b:=true) rfl rfl rfl) rfl ?_
 refine q_no (yl (dj:=74) (b:=true) rfl rfl rfl) rfl ?_
 refine q_st (v:=.bool true) (fun w hs => (x_pick_t (.tmp rfl rfl) .const)) ?_
 refine q_nil ?_
 intro w hs95
 refine n_then (c_cond_t (t:=true) (.tmp rfl rfl) rfl ?_)
 refine c_seq (c_region (st (v:=.slice none 0 0) (x_assign .const) ?_))
 refine st (v:=.bool false) (x_assign .const) ?_
 refine c_nil (n_then (c_ret (r_then (r_block (r_then (r_then (r_block (r_then (leave_ret (res_two (v:=.slice none 0 0) (u:=.bool false) rfl (.mk rfl rfl) (.mk rfl rfl)) ?_)))))))))
 have hans96:totS acc del = ([],false):=totS_no2 (by rw [← hL]; exact okAll_no (j:=k) (by omega) (okAt_from hx72 (by omega)))
 rw [hans96]
 have hs97:St H _ (row 34 2 (.slice none 0 0) (([]:List GItem).length) []::obj g82 34 [.int .i64 e68.From,.slice A78 n79 c80]::row 3 1 v_at_ at_.length c_at_::L):=hs95.krowNil 34 kItem
 exact ⟨(.slice none 0 0),[],rfl,(RowOk.knil kItem),(Kn.rows_nil _ _),((hs97.p1).drop.p1).drop⟩
 have hp94:¬ ((((n_acc:Nat):Int):Int) ≤ e68.From):=of_decide_eq_false hc94
 refine q_yes (yk 60 false rfl rfl hc94) ?_
 refine q_st (v:=v_at_) (fun w hs => (x_move (.tmp rfl hρ62))) ?_
 refine q_yes (yk 60 false rfl rfl hc94) ?_
 refine q_st (v:=.pointer (some ⟨g82,0 + 0,none⟩)) (fun w hs => (fa34_0 (.tmp rfl rfl))) ?_
 refine q_yes (yk 60 false rfl rfl hc94) ?_
 refine q_st (v:=.int .i64 e68.From) (fun w hs => (ld3 (.tmp rfl rfl) (hs.cell 0 rfl (0 + 0) rfl))) ?_
 refine q_yes (yk 60 false rfl rfl hc94) ?_
 obtain ⟨g99,c100,hv101⟩:=ok_at_.pos (by omega)
 obtain ⟨e102,cs103,hx104,hr105,hsub106⟩:=Kn.rows_get (i:=e68.From.toNat) hk_at_ (by omega)
 obtain ⟨rfl,⟨b107,b108⟩⟩:=hr105
 have hcz:e102 = ((cntI (long.take k) ((e68.From.toNat:Nat):Int):Nat):Int):=(cntL_at (n:=n_acc) (by have h9:=hx104; rw [hat] at h9; exact h9)).2
 have hfx:e68.From = ((e68.From.toNat:Nat):Int):=by omega
 refine q_st (v:=.pointer (some ⟨g99,(e68.From.toNat * 1),none⟩)) (fun w hs => (ixo31 (.tmp rfl hv101) rfl (i:=e68.From) (.tmp rfl rfl) (by omega) (by omega) (by omega))) ?_
 refine q_yes (yk 60 false rfl rfl hc94) ?_
 refine q_st (v:=.int .i64 e102) (fun w hs => (ld3 (.tmp rfl rfl) ((hs.rowAt 1 rfl hv101 (e68.From.toNat * 1) hsub106).cell 0 rfl))) ?_
 refine q_yes (yk 60 false rfl rfl hc94) ?_
 refine q_st (v:=.slice A_acc n_acc c_acc) (fun w hs => (x_move (.tmp rfl hρ60))) ?_
 refine q_yes (yk 60 false rfl rfl hc94) ?_
 refine q_st (v:=.pointer (some ⟨g82,0 + 0,none⟩)) (fun w hs => (fa34_0 (.tmp rfl rfl))) ?_
 refine q_yes (yk 60 false rfl rfl hc94) ?_
 refine q_st (v:=.int .i64 e68.From) (fun w hs => (ld3 (.tmp rfl rfl) (hs.cell 0 rfl (0 + 0) rfl))) ?_
 refine q_yes (yk 60 false rfl rfl hc94) ?_
 obtain ⟨e109,b110,o111,cs112,hx113,hA114,hr115,hat116⟩:=h_acc.get (i:=e68.From.toNat) (by omega)
 obtain ⟨A117,n118,c119,rfl,hl120⟩:=hr115
 have:=hl120.len; have:n118 * 24 ≤ 140737488351232:=hl120.bnd; have:=hl120.le
 have hat116x:∀ {w:World} {L:List Res},St H w L → At w ⟨b110,o111 + e68.From.toNat * 1,none⟩ [.slice A117 n118 c119]:=fun h => hat116 h
 refine q_st (v:=.pointer (some ⟨b110,(o111 + e68.From.toNat * 1),none⟩)) (fun w hs => (ixo22 (.tmp rfl rfl) hA114 (i:=e68.From) (.tmp rfl rfl) (by omega) (by omega) (by omega))) ?_
 refine q_yes (yk 60 false rfl rfl hc94) ?_
 refine q_st (v:=.slice A117 n118 c119) (fun w hs => (ld32 (.tmp rfl rfl) ((hat116x hs).cell 0 rfl))) ?_
 refine q_yes (yk 60 false rfl rfl hc94) ?_
 refine q_st (v:=.int .i64 ((n118:Nat):Int)) (fun w hs => (x_len (n:=n118) Tryd.underlying32 (.tmp rfl rfl))) ?_
 refine q_yes (yk 60 false rfl rfl hc94) ?_
 refine q_st (v:=.bool (decide ((((n118:Nat):Int):Int) ≤ e102))) (fun w hs => (x_geq (k:=.i64) (a:=e102) (b:=((n118:Nat):Int)) (.tmp rfl rfl) (.tmp rfl rfl))) ?_
 refine q_st (v:=.bool (decide ((((n118:Nat):Int):Int) ≤ e102))) (fun w hs => (x_pick_f (.tmp rfl (cVb hc94)) (.tmp rfl rfl))) ?_
 refine q_st (v:=.bool (decide ((((n118:Nat):Int):Int) ≤ e102))) (fun w hs => (x_move (.tmp rfl rfl))) ?_
 rcases Bool.eq_false_or_eq_true (decide ((((n118:Nat):Int):Int) ≤ e102)) with hc121 | hc121
 have hp121:(((n118:Nat):Int):Int) ≤ e102:=of_decide_eq_true hc121
 refine q_no (yk 74 true rfl rfl hc121) rfl ?_
 refine q_no (yk 74 true rfl rfl hc121) rfl ?_
 refine q_no (yk 74 true rfl rfl hc121) rfl ?_
 refine q_no (yk 74 true rfl rfl hc121) rfl ?_
 refine q_no (yk 74 true rfl rfl hc121) rfl ?_
 refine q_no (yk 74 true rfl rfl hc121) rfl ?_
 refine q_no (yk 74 true rfl rfl hc121) rfl ?_
 refine q_no (yk 74 true rfl rfl hc121) rfl ?_
 refine q_no (yk 74 true rfl rfl hc121) rfl ?_
 refine q_no (yk 74 true rfl rfl hc121) rfl ?_
 refine q_no (yk 74 true rfl rfl hc121) rfl ?_
 refine q_no (yk 74 true rfl rfl hc121) rfl ?_
 refine q_no (yk 74 true rfl rfl hc121) rfl ?_
 refine q_no (yk 74 true rfl rfl hc121) rfl ?_
 refine q_no (yk 74 true rfl rfl hc121) rfl ?_
 refine q_no (yk 74 true rfl rfl hc121) rfl ?_
 refine q_st (v:=.bool true) (fun w hs => (x_pick_t (.tmp rfl (cVb hc121)) .const)) ?_
 refine q_nil ?_
 intro w hs122
 refine n_then (c_cond_t (t:=true) (.tmp rfl rfl) rfl ?_)
 refine c_seq (c_region (st (v:=.slice none 0 0) (x_assign .const) ?_))
 refine st (v:=.bool false) (x_assign .const) ?_
 refine c_nil (n_then (c_ret (r_then (r_block (r_then (r_then (r_block (r_then (leave_ret (res_two (v:=.slice none 0 0) (u:=.bool false) rfl (.mk rfl rfl) (.mk rfl rfl)) ?_)))))))))
 have hans123:totS acc del = ([],false):=totS_no2 (by rw [← hL]; exact okAll_no (j:=k) (by omega) (okAt_out hx72 hfx hx113 (c:=e102.toNat) (by omega) (by omega)))
 rw [hans123]
 have hs124:St H _ (row 34 2 (.slice none 0 0) (([]:List GItem).length) []::obj g82 34 [.int .i64 e68.From,.slice A78 n79 c80]::row 3 1 v_at_ at_.length c_at_::L):=hs122.krowNil 34 kItem
 exact ⟨(.slice none 0 0),[],rfl,(RowOk.knil kItem),(Kn.rows_nil _ _),((hs124.p1).drop.p1).drop⟩
 have hp121:¬ ((((n118:Nat):Int):Int) ≤ e102):=of_decide_eq_false hc121
 refine q_yes (yk 74 false rfl rfl hc121) ?_
 refine q_st (v:=.slice A_acc n_acc c_acc) (fun w hs => (x_move (.tmp rfl hρ60))) ?_
 refine q_yes (yk 74 false rfl rfl hc121) ?_
 refine q_st (v:=.pointer (some ⟨g82,0 + 0,none⟩)) (fun w hs => (fa34_0 (.tmp rfl rfl))) ?_
 refine q_yes (yk 74 false rfl rfl hc121) ?_
 refine q_st (v:=.int .i64 e68.From) (fun w hs => (ld3 (.tmp rfl rfl) (hs.cell 0 rfl (0 + 0) rfl))) ?_
 refine q_yes (yk 74 false rfl rfl hc121) ?_
 refine q_st (v:=.pointer (some ⟨b110,(o111 + e68.From.toNat * 1),none⟩)) (fun w hs => (ixo22 (.tmp rfl rfl) hA114 (i:=e68.From) (.tmp rfl rfl) (by omega) (by omega) (by omega))) ?_
 refine q_yes (yk 74 false rfl rfl hc121) ?_
 refine q_st (v:=.slice A117 n118 c119) (fun w hs => (ld32 (.tmp rfl rfl) ((hat116x hs).cell 0 rfl))) ?_
 refine q_yes (yk 74 false rfl rfl hc121) ?_
 refine q_st (v:=v_at_) (fun w hs => (x_move (.tmp rfl hρ62))) ?_
 refine q_yes (yk 74 false rfl rfl hc121) ?_
 refine q_st (v:=.pointer (some ⟨g82,0 + 0,none⟩)) (fun w hs => (fa34_0 (.tmp rfl rfl))) ?_
 refine q_yes (yk 74 false rfl rfl hc121) ?_
 refine q_st (v:=.int .i64 e68.From) (fun w hs => (ld3 (.tmp rfl rfl) (hs.cell 0 rfl (0 + 0) rfl))) ?_
 refine q_yes (yk 74 false rfl rfl hc121) ?_
 obtain ⟨g126,c127,hv128⟩:=ok_at_.pos (by omega)
 refine q_st (v:=.pointer (some ⟨g126,(e68.From.toNat * 1),none⟩)) (fun w hs => (ixo31 (.tmp rfl hv128) rfl (i:=e68.From) (.tmp rfl rfl) (by omega) (by omega) (by omega))) ?_
 refine q_yes (yk 74 false rfl rfl hc121) ?_
 refine q_st (v:=.int .i64 e102) (fun w hs => (ld3 (.tmp rfl rfl) ((hs.rowAt 1 rfl hv128 (e68.From.toNat * 1) hsub106).cell 0 rfl))) ?_
 refine q_yes (yk 74 false rfl rfl hc121) ?_
 obtain ⟨e129,b130,o131,cs132,hx133,hA134,hr135,hat136⟩:=hl120.get (i:=e102.toNat) (by omega)
 obtain ⟨A137,n138,c139,rfl,hy140⟩:=hr135
 have:=hy140.len; have:=hy140.bnd; have:=hy140.le
 have hat136x:∀ {w:World} {L:List Res},St H w L → At w ⟨b130,o131 + e102.toNat * 1,none⟩ [.slice A137 n138 c139]:=fun h => hat136 h
 refine q_st (v:=.pointer (some ⟨b130,(o131 + e102.toNat * 1),none⟩)) (fun w hs => (ixo32 (.tmp rfl rfl) hA134 (i:=e102) (.tmp rfl rfl) (by omega) (by omega) (by omega))) ?_
 refine q_yes (yk 74 false rfl rfl hc121) ?_
 refine q_st (v:=.slice A137 n138 c139) (fun w hs => (ld30 (.tmp rfl rfl) ((hat136x hs).cell 0 rfl))) ?_
 refine q_yes (yk 74 false rfl rfl hc121) ?_
 refine q_st (v:=.pointer (some ⟨g82,0 + 1,none⟩)) (fun w hs => (fa34_1 (.tmp rfl rfl))) ?_
 refine q_yes (yk 74 false rfl rfl hc121) ?_
 refine q_st (v:=.slice A78 n79 c80) (fun w hs => (ld30 (.tmp rfl rfl) (hs.cell 0 rfl (0 + 1) rfl))) ?_
 refine q_yes (yk 74 false rfl rfl hc121) ?_
 refine q_c (v:=.bool (decide (e129 = e68.M))) cb21 .func (evs2 (.tmp rfl rfl) (.tmp rfl rfl)) (fun w hs => bequal_spec hs e129 hy140 e68.M hy81 ) ?_
 refine q_yes (yk 74 false rfl rfl hc121) ?_
 refine q_st (v:=.bool (!(decide (e129 = e68.M)))) (fun w hs => (x_not (.tmp rfl rfl))) ?_
 refine q_st (v:=.bool (!(decide (e129 = e68.M)))) (fun w hs => (x_pick_f (.tmp rfl (cVb hc121)) (.tmp rfl rfl))) ?_
 refine q_nil ?_
 intro w hs141
 refine n_then ?_
 rcases Bool.eq_false_or_eq_true (decide (e129 = e68.M)) with hc142 | hc142
 refine c_cond_f (t:=false) (.tmp rfl (cVb (by rw [hc142]; rfl))) rfl ?_
 refine c_skip (n_then (c_region (st (v:=v_at_) (x_move (.tmp rfl hρ62)) ?_)))
 refine st (v:=.pointer (some ⟨g82,0 + 0,none⟩)) (fa34_0 (.tmp rfl rfl)) ?_
 refine st (v:=.int .i64 e68.From) (ld3 (.tmp rfl rfl) (hs141.cell 0 rfl (0 + 0) rfl)) ?_
 obtain ⟨g143,c144,hv145⟩:=ok_at_.pos (by omega)
 refine st (v:=.pointer (some ⟨g143,(e68.From.toNat * 1),none⟩)) (ixo31 (.tmp rfl hv145) rfl (i:=e68.From) (.tmp rfl rfl) (by omega) (by omega) (by omega)) ?_
 refine st (v:=.int .i64 e102) (ld3 (.tmp rfl rfl) ((hs141.rowAt 1 rfl hv145 (e68.From.toNat * 1) hsub106).cell 0 rfl)) ?_
 refine st (v:=.int .i64 (e102 + 1)) (x_add (k:=.i64) (a:=e102) (b:=1) (.tmp rfl rfl) .const (w64 (by omega) (by omega))) ?_
 obtain ⟨g146,c147,hv148⟩:=ok_at_.pos (by omega)
 refine st (v:=.pointer (some ⟨g146,(e68.From.toNat * 1),none⟩)) (ixo31 (.tmp rfl hv148) rfl (i:=e68.From) (.tmp rfl rfl) (by omega) (by omega) (by omega)) ?_
 have hs149:=hs141.p1
 have hl155:e68.From.toNat * 1 + 1 ≤ c_at_.length:=by have h1:=(hk_at_).1; have h2:kI.sz = 1:=rfl; rw [h2] at h1; omega
 have hr154:kI.rep H (e102 + 1) [.int .i64 (e102 + 1)]:=⟨rfl,(show IB (e102 + 1) from ⟨by omega,by omega⟩)⟩
 refine st_m0 (stor3 hs149 hv148 (i:=(e68.From.toNat * 1)) (xs':=splice c_at_ (e68.From.toNat * 1) [.int .i64 (e102 + 1)]) (.tmp rfl rfl) (u:=.int .i64 (e102 + 1)) (.tmp rfl rfl) rfl (by omega) one1 rfl) ?_
 rintro w150 hs151
 have hk153:=Kn.rows_set (d:=kI.toKn) hk_at_ (i:=e68.From.toNat) (by omega) hr154
 have ok152:=ok_at_.splice (i:=e68.From.toNat * 1) (vs:=[.int .i64 (e102 + 1)]) (by simpa using hl155)
 have hn156:(at_.set e68.From.toNat (e102 + 1)).length = at_.length:=List.length_set
 have ok157:RowOk kI.sz v_at_ (at_.set e68.From.toNat (e102 + 1)).length (splice c_at_ (e68.From.toNat * 1) [.int .i64 (e102 + 1)]):=by rw [hn156]; exact ok152
 have hs158:St H w150 (row 3 1 v_at_ ((at_.set e68.From.toNat (e102 + 1)).length) (splice c_at_ (e68.From.toNat * 1) [.int .i64 (e102 + 1)])::obj g82 34 [.int .i64 e68.From,.slice A78 n79 c80]::L):=by rw [hn156]; exact hs151
 refine c_nil (n_block (n_then (c_region (st (v:=.int .i64 (((k + 1):Nat):Int)) (x_add (k:=.i64) (a:=((k:Nat):Int)) (b:=1) (.tmp rfl hρ65) .const ((w64 (by omega) (by omega)).trans (by omega))) ?_))))
 refine st (v:=.int .i64 (((k + 1):Nat):Int)) (x_move (.tmp rfl rfl)) ?_
 refine c_nil ?_
 refine n_then ⟨_,_,rfl,?_,(k + 1),(at_.set e68.From.toNat (e102 + 1)),v_at_,(splice c_at_ (e68.From.toNat * 1) [.int .i64 (e102 + 1)]),hρ60,hρ61,hρ62,hρ63,hρ64,rfl,ok157,hk153,(by omega),(by rw [take_next hx72,cntL_next (m:=e68.From.toNat) hfx (by omega),← hat,← hcz]),(okto_next hok (okAt_yes hx72 hfx hx113 (by omega) hx133 (of_decide_eq_true hc142))),(hs158.p1).drop,rfl⟩
 omega
 refine c_cond_t (t:=true) (.tmp rfl (cVb (by rw [hc142]; rfl))) rfl ?_
 refine c_seq (c_region (st (v:=.slice none 0 0) (x_assign .const) ?_))
 refine st (v:=.bool false) (x_assign .const) ?_
 refine c_nil (n_then (c_ret (r_then (r_block (r_then (r_then (r_block (r_then (leave_ret (res_two (v:=.slice none 0 0) (u:=.bool false) rfl (.mk rfl rfl) (.mk rfl rfl)) ?_)))))))))
 have hans159:totS acc del = ([],false):=totS_no2 (by rw [← hL]; exact okAll_no (j:=k) (by omega) (okAt_ne hx72 hfx hx113 (c:=e102.toNat) (by omega) hx133 (of_decide_eq_false hc142)))
 rw [hans159]
 have hs160:St H _ (row 34 2 (.slice none 0 0) (([]:List GItem).length) []::obj g82 34 [.int .i64 e68.From,.slice A78 n79 c80]::row 3 1 v_at_ at_.length c_at_::L):=hs141.krowNil 34 kItem
 exact ⟨(.slice none 0 0),[],rfl,(RowOk.knil kItem),(Kn.rows_nil _ _),((hs160.p1).drop.p1).drop⟩
 have hp67:¬ ((((k:Nat):Int):Int) < ((n_long:Nat):Int)):=of_decide_eq_false hc67
 refine c_cond_f (t:=false) (.tmp rfl (cVb hc67)) rfl ?_
 refine c_exit (x_then (x_then (x_here (n_then (c_seq (c_region (st (v:=.slice A_long n_long k_long) (x_move (.tmp rfl hρ61)) ?_)))))))
 refine st_c cb22 .func (evs1 (.tmp rfl rfl)) (clone_item hs66 long sp_long ) ?_
 rintro e w162 ⟨v164,cs167,rfl,ok165,hk168,hs163⟩
 have:=sp_long.len
 refine ⟨_,rfl,?_⟩
 refine st (v:=v164) (x_assign (.tmp rfl rfl)) ?_
 refine st (v:=.bool true) (x_assign .const) ?_
 refine c_nil (n_then (c_ret (leave_ret (res_two (v:=v164) (u:=.bool true) rfl (.mk rfl rfl) (.mk rfl rfl)) ?_)))
 have hans169:totS acc del = (long,true):=(totS_yes (by rw [← hL]; exact preS_end ha (by omega)) (by rw [← hL]; exact okAll_end hok (by omega))).trans (by rw [← hL])
 rw [hans169]
 exact ⟨v164,cs167,rfl,ok165,hk168,(hs163.p1).drop⟩
end Go.Proofs.YtnikcgcbkdeeeaaDoor

set_option linter.unusedVariables false
set_option linter.unusedSimpArgs false
namespace Go.Proofs.YtnikcgcbkdeeeaaDoor
open Go Go.FM Go.Proofs
attribute [local irreducible] wpList wpQuiet Code.wp Calls
end Go.Proofs.YtnikcgcbkdeeeaaDoor

set_option linter.unusedVariables false
set_option linter.unusedSimpArgs false
namespace Go.Proofs.YtnikcgcbkdeeeaaDoor
open Go Go.FM Go.Proofs
attribute [local irreducible] wpList wpQuiet Code.wp Calls
set_option maxHeartbeats 8000000 in
theorem views_nil {H:Hp} {w:World} {L:List Res} (hs:St H w (L)) :Calls Tryd.prog 15 #[.slice none 0 0] w (fun e w' => e = .returned (.bool true)∧St H w' (L)):=by
 refine enter (args:=[.slice none 0 0]) (N:=65) Tryd.func15 rfl rfl rfl ?_
 refine c_seq (c_region (st (v:=.bool false) (x_assign .const) ?_))
 refine c_nil (n_then (c_seq (c_region (st (v:=.slice none 0 0) (x_assign .const) ?_))))
 refine c_nil (n_then (c_seq (c_seq (c_region (st (v:=.slice none 0 0) (x_move (.tmp rfl rfl)) ?_)))))
 refine st (v:=.int .i64 ((0:Nat):Int)) (x_len (n:=0) Tryd.underlying36 (.tmp rfl rfl)) ?_
 refine st (v:=.int .i64 0) (x_move .const) ?_
 refine c_nil (n_then (c_block (c_loop (fun ρ w mm => ∃ (i:Nat),ρ 3 = .slice none 0 0∧ρ 12 = .slice none 0 0∧ρ 13 = .int .i64 ((0:Nat):Int)∧ρ 14 = .int .i64 ((i:Nat):Int)∧St H w (L)∧mm = 0) _ ⟨0,rfl,rfl,rfl,rfl,hs,rfl⟩ ?_)))
 rintro ρ w mm ⟨i,hρ2,hρ3,hρ4,hρ5,hs6,rfl⟩
 refine c_seq (c_region (st (v:=.bool (decide ((((i:Nat):Int):Int) < ((0:Nat):Int)))) (x_lss (k:=.i64) (a:=((i:Nat):Int)) (b:=((0:Nat):Int)) (.tmp rfl hρ5) (.tmp rfl hρ4)) ?_))
 refine c_nil (n_then (c_seq ?_))
 have hc7:(decide ((((i:Nat):Int):Int) < ((0:Nat):Int))) = false:=decide_eq_false (by omega)
 refine c_cond_f (t:=false) (.tmp rfl (cVb hc7)) rfl ?_
 refine c_exit (x_then (x_then (x_here (n_then (c_seq (c_seq (c_region (st (v:=.slice none 0 0) (x_move (.tmp rfl hρ2)) ?_))))))))
 refine st (v:=.int .i64 ((0:Nat):Int)) (x_len (n:=0) Tryd.underlying58 (.tmp rfl rfl)) ?_
 refine st (v:=.int .i64 0) (x_move .const) ?_
 refine c_nil (n_then (c_block (c_loop (fun ρ w mm => ∃ (i:Nat),ρ 3 = .slice none 0 0∧ρ 31 = .slice none 0 0∧ρ 32 = .int .i64 ((0:Nat):Int)∧ρ 33 = .int .i64 ((i:Nat):Int)∧St H w (L)∧mm = 0) _ ⟨0,hρ2,rfl,rfl,rfl,hs6,rfl⟩ ?_)))
 rintro ρ w mm ⟨i,hρ9,hρ10,hρ11,hρ12,hs13,rfl⟩
 refine c_seq (c_region (st (v:=.bool (decide ((((i:Nat):Int):Int) < ((0:Nat):Int)))) (x_lss (k:=.i64) (a:=((i:Nat):Int)) (b:=((0:Nat):Int)) (.tmp rfl hρ12) (.tmp rfl hρ11)) ?_))
 refine c_nil (n_then (c_seq (c_cond_f (t:=false) (.tmp rfl (cVb hc7)) rfl ?_)))
 refine c_exit (x_then (x_then (x_here (n_then (c_seq (c_region (st (v:=.bool true) (x_assign .const) ?_)))))))
 refine c_nil (n_then (c_ret (leave_ret (res_one (v:=.bool true) rfl (.mk rfl rfl)) ?_)))
 exact ⟨rfl,hs13⟩
end Go.Proofs.YtnikcgcbkdeeeaaDoor

set_option linter.unusedVariables false
set_option linter.unusedSimpArgs false
namespace Go.Proofs.YtnikcgcbkdeeeaaDoor
open Go Go.FM Go.Proofs
attribute [local irreducible] wpList wpQuiet Code.wp Calls
set_option maxHeartbeats 8000000 in
theorem awake_spec {H:Hp} {w:World} {L:List Res} (hs:St H w (L)) :Calls Tryd.prog 10 #[] w (fun e w' => e = .returned (.bool true)∧St H w' (L)):=by
 refine enter (args:=[]) (N:=54) Tryd.func10 rfl rfl rfl ?_
 refine c_seq (c_region (st (v:=.bool false) (x_assign .const) ?_))
 refine c_nil (n_then (c_seq (c_region (st_m (m_lit (n:=1) (ps:=[(0,.int .u8 97)]) (cs:=[.int .u8 97]) Tryd.underlying30 inf5 (.cons .const Evp.nil) (by decide) (by decide) rfl rfl hs) ?_))))
 rintro _ w2 ⟨g1,rfl,hs4⟩
 refine st_m (m_litBytes (n:=1) (c:=1) Tryd.underlying30 Tryd.underlying5 hs4 (.tmp rfl rfl)) ?_
 rintro _ w5 ⟨rfl,H7,hle8,hs6,rd9⟩
 have hp10:Bs H7 ((some ⟨g1,0,none⟩)) 1 1 [97]:=⟨rd9,rfl,Nat.le_refl _,by decide,by unfold Small; decide⟩
 refine st_m (m_lit (n:=1) (ps:=[(0,.int .u8 98)]) (cs:=[.int .u8 98]) Tryd.underlying30 inf5 (.cons .const Evp.nil) (by decide) (by decide) rfl rfl hs6) ?_
 rintro _ w12 ⟨g11,rfl,hs14⟩
 refine st_m (m_litBytes (n:=1) (c:=1) Tryd.underlying30 Tryd.underlying5 hs14 (.tmp rfl rfl)) ?_
 rintro _ w15 ⟨rfl,H17,hle18,hs16,rd19⟩
 have hp20:Bs H17 ((some ⟨g11,0,none⟩)) 1 1 [98]:=⟨rd19,rfl,Nat.le_refl _,by decide,by unfold Small; decide⟩
 refine st_m (m_lit (n:=2) (ps:=[(0,.slice (some ⟨g1,0,none⟩) 1 1),(1,.slice (some ⟨g11,0,none⟩) 1 1)]) (cs:=[.slice (some ⟨g1,0,none⟩) 1 1,.slice (some ⟨g11,0,none⟩) 1 1]) Tryd.underlying32 inf30 (.cons (.tmp rfl rfl) (.cons (.tmp rfl rfl) Evp.nil)) (by decide) (by decide) rfl rfl hs16) ?_
 rintro _ w22 ⟨g21,rfl,hs24⟩
 have hr30:kBs.rep H17 [97] [.slice (some ⟨g1,0,none⟩) 1 1]:=⟨(some ⟨g1,0,none⟩),1,1,rfl,⟨(hp10.mono hle18),by omega⟩⟩
 have hr31:kBs.rep H17 [98] [.slice (some ⟨g11,0,none⟩) 1 1]:=⟨(some ⟨g11,0,none⟩),1,1,rfl,⟨hp20,by omega⟩⟩
 have hk32:kBs.toKn.rows H17 [[97],[98]] [.slice (some ⟨g1,0,none⟩) 1 1,.slice (some ⟨g11,0,none⟩) 1 1]:=Kn.rows_snoc (Kn.rows_one hr30) hr31
 obtain ⟨H25,hle26,hs27,rd28,hb29⟩:=hs24.freezeObj
 have sp33:Sl kBs H25 ((some ⟨g21,0,none⟩)) 2 2 [[97],[98]]:=⟨⟨_,rd28,Kn.rows_mono hk32 hle26⟩,rfl,Nat.le_refl _,by decide,by decide⟩
 refine st_m (m_lit (n:=1) (ps:=[(0,.slice (some ⟨g21,0,none⟩) 2 2)]) (cs:=[.slice (some ⟨g21,0,none⟩) 2 2]) Tryd.underlying22 inf32 (.cons (.tmp rfl rfl) Evp.nil) (by decide) (by decide) rfl rfl hs27) ?_
 rintro _ w35 ⟨g34,rfl,hs37⟩
 refine st_m (m_lit (n:=1) (ps:=[(0,.int .u8 97)]) (cs:=[.int .u8 97]) Tryd.underlying30 inf5 (.cons .const Evp.nil) (by decide) (by decide) rfl rfl hs37) ?_
 rintro _ w39 ⟨g38,rfl,hs41⟩
 refine st_m (m_litBytes (n:=1) (c:=1) Tryd.underlying30 Tryd.underlying5 hs41 (.tmp rfl rfl)) ?_
 rintro _ w42 ⟨rfl,H44,hle45,hs43,rd46⟩
 have hp47:Bs H44 ((some ⟨g38,0,none⟩)) 1 1 [97]:=⟨rd46,rfl,Nat.le_refl _,by decide,by unfold Small; decide⟩
 refine st (v:=.agg #[.int .i64 0,.slice (some ⟨g38,0,none⟩) 1 1]) (bl34 (ps:=[(1,.slice (some ⟨g38,0,none⟩) 1 1)]) (.cons (.tmp rfl rfl) Evp.nil) rfl) ?_
 refine st_m (m_lit (n:=1) (ps:=[(0,.agg #[.int .i64 0,.slice (some ⟨g38,0,none⟩) 1 1])]) (cs:=[.int .i64 0,.slice (some ⟨g38,0,none⟩) 1 1]) Tryd.underlying25 inf34 (.cons (.tmp rfl rfl) Evp.nil) (by decide) (by decide) rfl rfl hs43) ?_
 rintro _ w49 ⟨g48,rfl,hs51⟩
 have hr57:kItem.rep H44 (GItem.mk 0 [97]) [.int .i64 0,.slice (some ⟨g38,0,none⟩) 1 1]:=⟨(some ⟨g38,0,none⟩),1,1,rfl,(show IB 0 from ⟨by omega,by omega⟩),⟨hp47,by omega⟩⟩
 have hk58:kItem.toKn.rows H44 [(GItem.mk 0 [97])] [.int .i64 0,.slice (some ⟨g38,0,none⟩) 1 1]:=Kn.rows_one hr57
 obtain ⟨H52,hle53,hs54,rd55,hb56⟩:=hs51.freezeObj
 have sp59:Sl kItem H52 ((some ⟨g48,0,none⟩)) 1 1 [(GItem.mk 0 [97])]:=⟨⟨_,rd55,Kn.rows_mono hk58 hle53⟩,rfl,Nat.le_refl _,by decide,by decide⟩
 refine st_m (m_lit (n:=2) (ps:=[(0,.slice (some ⟨g48,0,none⟩) 1 1),(1,.slice none 0 0)]) (cs:=[.slice (some ⟨g48,0,none⟩) 1 1,.slice none 0 0]) Tryd.underlying23 inf25 (.cons (.tmp rfl rfl) (.cons .const Evp.nil)) (by decide) (by decide) rfl rfl hs54) ?_
 rintro _ w61 ⟨g60,rfl,hs63⟩
 have hs64:=hs63.p1
 have hr70:(kSl kBs).rep H52 [[97],[98]] [.slice (some ⟨g21,0,none⟩) 2 2]:=⟨(some ⟨g21,0,none⟩),2,2,rfl,((sp33.mono hle45).mono hle53)⟩
 have hk71:(kSl kBs).toKn.rows H52 [[[97],[98]]] [.slice (some ⟨g21,0,none⟩) 2 2]:=Kn.rows_one hr70
 obtain ⟨H65,hle66,hs67,rd68,hb69⟩:=hs64.freezeObj
 have sp72:Sl (kSl kBs) H65 ((some ⟨g34,0,none⟩)) 1 1 [[[97],[98]]]:=⟨⟨_,rd68,Kn.rows_mono hk71 hle66⟩,rfl,Nat.le_refl _,by decide,by decide⟩
 have hr78:(kSl kItem).rep H65 [(GItem.mk 0 [97])] [.slice (some ⟨g48,0,none⟩) 1 1]:=⟨(some ⟨g48,0,none⟩),1,1,rfl,(sp59.mono hle66)⟩
 have hr79:(kSl kItem).rep H65 [] [.slice none 0 0]:=⟨none,0,0,rfl,(Sl.nil _ _ none)⟩
 have hk80:(kSl kItem).toKn.rows H65 [[(GItem.mk 0 [97])],[]] [.slice (some ⟨g48,0,none⟩) 1 1,.slice none 0 0]:=Kn.rows_snoc (Kn.rows_one hr78) hr79
 obtain ⟨H73,hle74,hs75,rd76,hb77⟩:=hs67.freezeObj
 have sp81:Sl (kSl kItem) H73 ((some ⟨g60,0,none⟩)) 2 2 [[(GItem.mk 0 [97])],[]]:=⟨⟨_,rd76,Kn.rows_mono hk80 hle74⟩,rfl,Nat.le_refl _,by decide,by decide⟩
 refine st_c cb11 .func (evs2 (.tmp rfl rfl) (.tmp rfl rfl)) (total_spec hs75 [[[97],[98]]] (sp72.mono hle74) [[(GItem.mk 0 [97])],[]] sp81 ) ?_
 rintro e w82 ⟨v84,cs87,rfl,ok85,hk88,hs83⟩
 have:=(sp72.mono hle74).len
 have:=sp81.len
 refine ⟨_,rfl,?_⟩
 refine st (v:=.tuple #[v84,.bool ((totS [[[97],[98]]] [[(GItem.mk 0 [97])],[]]).2)]) (x_move (.tmp rfl rfl)) ?_
 refine st (v:=v84) (x_extract (.tmp rfl rfl) (i:=0) rfl) ?_
 refine st (v:=.bool ((totS [[[97],[98]]] [[(GItem.mk 0 [97])],[]]).2)) (x_extract (.tmp rfl rfl) (i:=1) rfl) ?_
 refine st (v:=v84) (x_assign (.tmp rfl rfl)) ?_
 refine st (v:=.bool ((totS [[[97],[98]]] [[(GItem.mk 0 [97])],[]]).2)) (x_assign (.tmp rfl rfl)) ?_
 refine c_nil (n_then (c_seq (c_region (st_m (m_lit (n:=1) (ps:=[(0,.int .u8 97)]) (cs:=[.int .u8 97]) Tryd.underlying30 inf5 (.cons .const Evp.nil) (by decide) (by decide) rfl rfl hs83) ?_))))
 rintro _ w90 ⟨g89,rfl,hs92⟩
 refine st_m (m_litBytes (n:=1) (c:=1) Tryd.underlying30 Tryd.underlying5 hs92 (.tmp rfl rfl)) ?_
 rintro _ w93 ⟨rfl,H95,hle96,hs94,rd97⟩
 have hp98:Bs H95 ((some ⟨g89,0,none⟩)) 1 1 [97]:=⟨rd97,rfl,Nat.le_refl _,by decide,by unfold Small; decide⟩
 refine st_m (m_lit (n:=1) (ps:=[(0,.slice (some ⟨g89,0,none⟩) 1 1)]) (cs:=[.slice (some ⟨g89,0,none⟩) 1 1]) Tryd.underlying32 inf30 (.cons (.tmp rfl rfl) Evp.nil) (by decide) (by decide) rfl rfl hs94) ?_
 rintro _ w100 ⟨g99,rfl,hs102⟩
 have hr108:kBs.rep H95 [97] [.slice (some ⟨g89,0,none⟩) 1 1]:=⟨(some ⟨g89,0,none⟩),1,1,rfl,⟨hp98,by omega⟩⟩
 have hk109:kBs.toKn.rows H95 [[97]] [.slice (some ⟨g89,0,none⟩) 1 1]:=Kn.rows_one hr108
 obtain ⟨H103,hle104,hs105,rd106,hb107⟩:=hs102.freezeObj
 have sp110:Sl kBs H103 ((some ⟨g99,0,none⟩)) 1 1 [[97]]:=⟨⟨_,rd106,Kn.rows_mono hk109 hle104⟩,rfl,Nat.le_refl _,by decide,by decide⟩
 refine st_m (m_lit (n:=1) (ps:=[(0,.slice (some ⟨g99,0,none⟩) 1 1)]) (cs:=[.slice (some ⟨g99,0,none⟩) 1 1]) Tryd.underlying22 inf32 (.cons (.tmp rfl rfl) Evp.nil) (by decide) (by decide) rfl rfl hs105) ?_
 rintro _ w112 ⟨g111,rfl,hs114⟩
 refine st_m (m_lit (n:=1) (ps:=[(0,.int .u8 98)]) (cs:=[.int .u8 98]) Tryd.underlying30 inf5 (.cons .const Evp.nil) (by decide) (by decide) rfl rfl hs114) ?_
 rintro _ w116 ⟨g115,rfl,hs118⟩
 refine st_m (m_litBytes (n:=1) (c:=1) Tryd.underlying30 Tryd.underlying5 hs118 (.tmp rfl rfl)) ?_
 rintro _ w119 ⟨rfl,H121,hle122,hs120,rd123⟩
 have hp124:Bs H121 ((some ⟨g115,0,none⟩)) 1 1 [98]:=⟨rd123,rfl,Nat.le_refl _,by decide,by unfold Small; decide⟩
 refine st (v:=.agg #[.int .i64 0,.slice (some ⟨g115,0,none⟩) 1 1]) (bl34 (ps:=[(1,.slice (some ⟨g115,0,none⟩) 1 1)]) (.cons (.tmp rfl rfl) Evp.nil) rfl) ?_
 refine st_m (m_lit (n:=1) (ps:=[(0,.agg #[.int .i64 0,.slice (some ⟨g115,0,none⟩) 1 1])]) (cs:=[.int .i64 0,.slice (some ⟨g115,0,none⟩) 1 1]) Tryd.underlying25 inf34 (.cons (.tmp rfl rfl) Evp.nil) (by decide) (by decide) rfl rfl hs120) ?_
 rintro _ w126 ⟨g125,rfl,hs128⟩
 have hr134:kItem.rep H121 (GItem.mk 0 [98]) [.int .i64 0,.slice (some ⟨g115,0,none⟩) 1 1]:=⟨(some ⟨g115,0,none⟩),1,1,rfl,(show IB 0 from ⟨by omega,by omega⟩),⟨hp124,by omega⟩⟩
 have hk135:kItem.toKn.rows H121 [(GItem.mk 0 [98])] [.int .i64 0,.slice (some ⟨g115,0,none⟩) 1 1]:=Kn.rows_one hr134
 obtain ⟨H129,hle130,hs131,rd132,hb133⟩:=hs128.freezeObj
 have sp136:Sl kItem H129 ((some ⟨g125,0,none⟩)) 1 1 [(GItem.mk 0 [98])]:=⟨⟨_,rd132,Kn.rows_mono hk135 hle130⟩,rfl,Nat.le_refl _,by decide,by decide⟩
 refine st_m (m_lit (n:=1) (ps:=[(0,.slice (some ⟨g125,0,none⟩) 1 1)]) (cs:=[.slice (some ⟨g125,0,none⟩) 1 1]) Tryd.underlying23 inf25 (.cons (.tmp rfl rfl) Evp.nil) (by decide) (by decide) rfl rfl hs131) ?_
 rintro _ w138 ⟨g137,rfl,hs140⟩
 have hs141:=hs140.p1
 have hr147:(kSl kBs).rep H129 [[97]] [.slice (some ⟨g99,0,none⟩) 1 1]:=⟨(some ⟨g99,0,none⟩),1,1,rfl,((sp110.mono hle122).mono hle130)⟩
 have hk148:(kSl kBs).toKn.rows H129 [[[97]]] [.slice (some ⟨g99,0,none⟩) 1 1]:=Kn.rows_one hr147
 obtain ⟨H142,hle143,hs144,rd145,hb146⟩:=hs141.freezeObj
 have sp149:Sl (kSl kBs) H142 ((some ⟨g111,0,none⟩)) 1 1 [[[97]]]:=⟨⟨_,rd145,Kn.rows_mono hk148 hle143⟩,rfl,Nat.le_refl _,by decide,by decide⟩
 have hr155:(kSl kItem).rep H142 [(GItem.mk 0 [98])] [.slice (some ⟨g125,0,none⟩) 1 1]:=⟨(some ⟨g125,0,none⟩),1,1,rfl,(sp136.mono hle143)⟩
 have hk156:(kSl kItem).toKn.rows H142 [[(GItem.mk 0 [98])]] [.slice (some ⟨g125,0,none⟩) 1 1]:=Kn.rows_one hr155
 obtain ⟨H150,hle151,hs152,rd153,hb154⟩:=hs144.freezeObj
 have sp157:Sl (kSl kItem) H150 ((some ⟨g137,0,none⟩)) 1 1 [[(GItem.mk 0 [98])]]:=⟨⟨_,rd153,Kn.rows_mono hk156 hle151⟩,rfl,Nat.le_refl _,by decide,by decide⟩
 refine st_c cb11 .func (evs2 (.tmp rfl rfl) (.tmp rfl rfl)) (total_spec hs152 [[[97]]] (sp149.mono hle151) [[(GItem.mk 0 [98])]] sp157 ) ?_
 rintro e w158 ⟨v160,cs163,rfl,ok161,hk164,hs159⟩
 have:=(sp149.mono hle151).len
 have:=sp157.len
 refine ⟨_,rfl,?_⟩
 refine st (v:=.tuple #[v160,.bool ((totS [[[97]]] [[(GItem.mk 0 [98])]]).2)]) (x_move (.tmp rfl rfl)) ?_
 refine st (v:=v160) (x_extract (.tmp rfl rfl) (i:=0) rfl) ?_
 refine st (v:=.bool ((totS [[[97]]] [[(GItem.mk 0 [98])]]).2)) (x_extract (.tmp rfl rfl) (i:=1) rfl) ?_
 refine st (v:=v160) (x_assign (.tmp rfl rfl)) ?_
 refine st (v:=.bool ((totS [[[97]]] [[(GItem.mk 0 [98])]]).2)) (x_assign (.tmp rfl rfl)) ?_
 refine c_nil (n_then (c_seq (c_region ?_)))
 have hrn:((totS [[[97],[98]]] [[(GItem.mk 0 [97])],[]]).1).length = 1:=by decide +kernel
 skip
 refine st (v:=.bool ((totS [[[97],[98]]] [[(GItem.mk 0 [97])],[]]).2)) (x_move (.tmp rfl rfl)) ?_
 refine st (v:=.bool ((totS [[[97],[98]]] [[(GItem.mk 0 [97])],[]]).2)) (x_move (.tmp rfl rfl)) ?_
 have hc165:((totS [[[97],[98]]] [[(GItem.mk 0 [97])],[]]).2) = true:=(by decide +kernel)
 refine g_yes (yk 34 true rfl rfl hc165) ?_
 refine st (v:=v84) (x_move (.tmp rfl rfl)) ?_
 refine g_yes (yk 34 true rfl rfl hc165) ?_
 obtain ⟨A166,c167,hv168,hc169⟩:=ok85.slice
 refine st (v:=.int .i64 ((((totS [[[97],[98]]] [[(GItem.mk 0 [97])],[]]).1).length:Nat):Int)) (x_len (n:=((totS [[[97],[98]]] [[(GItem.mk 0 [97])],[]]).1).length) Tryd.underlying25 (.tmp rfl hv168)) ?_
 refine g_yes (yk 34 true rfl rfl hc165) ?_
 refine st (v:=.bool (decide ((((((totS [[[97],[98]]] [[(GItem.mk 0 [97])],[]]).1).length:Nat):Int):Int) = 1))) (x_eql (k:=.i64) (a:=((((totS [[[97],[98]]] [[(GItem.mk 0 [97])],[]]).1).length:Nat):Int)) (b:=1) (.tmp rfl rfl) .const) ?_
 refine st (v:=.bool (decide ((((((totS [[[97],[98]]] [[(GItem.mk 0 [97])],[]]).1).length:Nat):Int):Int) = 1))) (x_pick_t (.tmp rfl (cVb hc165)) (.tmp rfl rfl)) ?_
 refine st (v:=.bool (decide ((((((totS [[[97],[98]]] [[(GItem.mk 0 [97])],[]]).1).length:Nat):Int):Int) = 1))) (x_move (.tmp rfl rfl)) ?_
 have hc170:(decide ((((((totS [[[97],[98]]] [[(GItem.mk 0 [97])],[]]).1).length:Nat):Int):Int) = 1)) = true:=(decide_eq_true (by decide +kernel))
 refine g_yes (yk 39 true rfl rfl hc170) ?_
 refine st (v:=v84) (x_move (.tmp rfl rfl)) ?_
 refine g_yes (yk 39 true rfl rfl hc170) ?_
 obtain ⟨g171,c172,hv173⟩:=ok85.pos (by omega)
 obtain ⟨e174,cs175,hx176,hr177,hsub178⟩:=Kn.rows_get (i:=0) (Kn.rows_mono (Kn.rows_mono (Kn.rows_mono (Kn.rows_mono (Kn.rows_mono (Kn.rows_mono hk88 hle96) hle104) hle122) hle130) hle143) hle151) (by omega)
 obtain ⟨A181,n182,c183,rfl,⟨b179,b180⟩,hy184⟩:=hr177
 have:=hy184.len; have:=hy184.bnd; have:=hy184.le
 have he1:e174 = GItem.mk 0 [97]:=by have h9:=hx176; rw [show ((totS [[[97],[98]]] [[(GItem.mk 0 [97])],[]]).1) = [GItem.mk 0 [97]] from by decide +kernel] at h9; exact (Option.some.inj h9).symm
 refine st (v:=.pointer (some ⟨g171,(0 * 2),none⟩)) (ixo25 (.tmp rfl hv173) rfl (i:=0) .const (by omega) (by omega) (by omega)) ?_
 refine g_yes (yk 39 true rfl rfl hc170) ?_
 refine st (v:=.pointer (some ⟨g171,(0 * 2) + 1,none⟩)) (fa34_1 (.tmp rfl rfl)) ?_
 refine g_yes (yk 39 true rfl rfl hc170) ?_
 refine st (v:=.slice A181 n182 c183) (ld30 (.tmp rfl rfl) ((hs159.rowAt 1 rfl hv173 (0 * 2) hsub178).cell 1 rfl)) ?_
 refine g_yes (yk 39 true rfl rfl hc170) ?_
 refine st (v:=.string (bstr e174.M)) (hy184.toBs.str Tryd.underlying30 Tryd.underlying5 Tryd.underlying9 hs159 (.tmp rfl rfl)) ?_
 refine g_yes (yk 39 true rfl rfl hc170) ?_
 refine st (v:=.bool (decide ((bstr e174.M) = (⟨#[97]⟩)))) (x_eqlS (.tmp rfl rfl) .const) ?_
 refine st (v:=.bool (decide ((bstr e174.M) = (⟨#[97]⟩)))) (x_pick_t (.tmp rfl (cVb hc170)) (.tmp rfl rfl)) ?_
 refine st (v:=.bool (decide ((bstr e174.M) = (⟨#[97]⟩)))) (x_move (.tmp rfl rfl)) ?_
 have hc185:(decide ((bstr e174.M) = (⟨#[97]⟩))) = true:=(decide_eq_true (by rw [he1]; rfl))
 refine g_yes (yk 47 true rfl rfl hc185) ?_
 refine st (v:=.bool ((totS [[[97]]] [[(GItem.mk 0 [98])]]).2)) (x_move (.tmp rfl rfl)) ?_
 refine g_yes (yk 47 true rfl rfl hc185) ?_
 refine st (v:=.bool (!((totS [[[97]]] [[(GItem.mk 0 [98])]]).2))) (x_not (.tmp rfl rfl)) ?_
 refine st (v:=.bool (!((totS [[[97]]] [[(GItem.mk 0 [98])]]).2))) (x_pick_t (.tmp rfl (cVb hc185)) (.tmp rfl rfl)) ?_
 refine st (v:=.bool (!((totS [[[97]]] [[(GItem.mk 0 [98])]]).2))) (x_move (.tmp rfl rfl)) ?_
 have hc186:((totS [[[97]]] [[(GItem.mk 0 [98])]]).2) = false:=(by decide +kernel)
 refine g_yes (yl (dj:=51) (b:=true) rfl rfl (cVb (by rw [hc186]; rfl))) ?_
 refine st_c cb15 .func (evs1 .const) (views_nil hs159  ) ?_
 rintro e w187 ⟨rfl,hs188⟩
 refine ⟨_,rfl,?_⟩
 refine st (v:=.bool true) (x_pick_t (.tmp rfl (cVb (by rw [hc186]; rfl))) (.tmp rfl rfl)) ?_
 refine st (v:=.bool true) (x_assign (.tmp rfl rfl)) ?_
 refine c_nil (n_then (c_ret (leave_ret (res_one (v:=.bool true) rfl (.mk rfl rfl)) ?_)))
 exact ⟨rfl,(hs188.drop.drop.weaken ((((((((((((hle8.trans hle18).trans hle26).trans hle45).trans hle53).trans hle66).trans hle74).trans hle96).trans hle104).trans hle122).trans hle130).trans hle143).trans hle151))⟩
end Go.Proofs.YtnikcgcbkdeeeaaDoor

set_option linter.unusedVariables false
set_option linter.unusedSimpArgs false
namespace Go.Proofs.YtnikcgcbkdeeeaaDoor
open Go Go.FM Go.Proofs
attribute [local irreducible] wpList wpQuiet Code.wp Calls
end Go.Proofs.YtnikcgcbkdeeeaaDoor

set_option linter.unusedVariables false
set_option linter.unusedSimpArgs false
namespace Go.Proofs.YtnikcgcbkdeeeaaDoor
open Go Go.FM Go.Proofs
attribute [local irreducible] wpList wpQuiet Code.wp Calls
end Go.Proofs.YtnikcgcbkdeeeaaDoor

set_option linter.unusedVariables false
set_option linter.unusedSimpArgs false
namespace Go.Proofs.YtnikcgcbkdeeeaaDoor
open Go Go.FM Go.Proofs
attribute [local irreducible] wpList wpQuiet Code.wp Calls
end Go.Proofs.YtnikcgcbkdeeeaaDoor

set_option linter.unusedVariables false
set_option linter.unusedSimpArgs false
namespace Go.Proofs.YtnikcgcbkdeeeaaDoor
open Go Go.FM Go.Proofs
attribute [local irreducible] wpList wpQuiet Code.wp Calls
end Go.Proofs.YtnikcgcbkdeeeaaDoor

set_option linter.unusedVariables false
set_option linter.unusedSimpArgs false
namespace Go.Proofs.YtnikcgcbkdeeeaaDoor
open Go Go.FM Go.Proofs
attribute [local irreducible] wpList wpQuiet Code.wp Calls
end Go.Proofs.YtnikcgcbkdeeeaaDoor

set_option linter.unusedVariables false
set_option linter.unusedSimpArgs false
namespace Go.Proofs.YtnikcgcbkdeeeaaDoor
open Go Go.FM Go.Proofs
attribute [local irreducible] wpList wpQuiet Code.wp Calls
set_option maxHeartbeats 8000000 in
theorem pair_spec {H:Hp} {w:World} {L:List Res} (hs:St H w (L)) (a:GLife) {k_a:List Value} (h_a:kLife.rep H a k_a) (b:GLife) {k_b:List Value} (h_b:kLife.rep H b k_b):Calls Tryd.prog 25 #[.agg k_a.toArray,.agg k_b.toArray] w (fun e w' => e = .returned (.bool (pairL a b))∧St H w' (L)):=by
 obtain ⟨A7,n8,c9,A11,n12,c13,rfl,⟨b1,b2⟩,b3,⟨b4,b5⟩,b6,hl10,hl14,⟨b15,b16⟩,b17,⟨b18,b19⟩⟩:=h_a
 have:=hl10.len; have:n8 * 32 ≤ 140737488351232:=hl10.bnd; have:=hl10.le
 have:=hl14.len; have:n12 * 32 ≤ 140737488351232:=hl14.bnd; have:=hl14.le
 obtain ⟨A26,n27,c28,A30,n31,c32,rfl,⟨b20,b21⟩,b22,⟨b23,b24⟩,b25,hl29,hl33,⟨b34,b35⟩,b36,⟨b37,b38⟩⟩:=h_b
 have:=hl29.len; have:n27 * 32 ≤ 140737488351232:=hl29.bnd; have:=hl29.le
 have:=hl33.len; have:n31 * 32 ≤ 140737488351232:=hl33.bnd; have:=hl33.le
 refine enter (args:=[.agg #[.int .i64 a.node,.int .u64 ((a.view.ID.N:Nat):Int),.int .i64 a.view.ID.P,.int .u16 ((a.view.Set:Nat):Int),.slice A7 n8 c9,.slice A11 n12 c13,.int .i64 a.safe,.int .u64 ((a.next.N:Nat):Int),.int .i64 a.next.P],.agg #[.int .i64 b.node,.int .u64 ((b.view.ID.N:Nat):Int),.int .i64 b.view.ID.P,.int .u16 ((b.view.Set:Nat):Int),.slice A26 n27 c28,.slice A30 n31 c32,.int .i64 b.safe,.int .u64 ((b.next.N:Nat):Int),.int .i64 b.next.P]]) (N:=52) Tryd.func25 rfl rfl rfl ?_
 refine c_seq (c_region (st_m (m_box (cs:=[.int .i64 a.node,.int .u64 ((a.view.ID.N:Nat):Int),.int .i64 a.view.ID.P,.int .u16 ((a.view.Set:Nat):Int),.slice A7 n8 c9,.slice A11 n12 c13,.int .i64 a.safe,.int .u64 ((a.next.N:Nat):Int),.int .i64 a.next.P]) hs (v:=.agg #[.int .i64 a.node,.int .u64 ((a.view.ID.N:Nat):Int),.int .i64 a.view.ID.P,.int .u16 ((a.view.Set:Nat):Int),.slice A7 n8 c9,.slice A11 n12 c13,.int .i64 a.safe,.int .u64 ((a.next.N:Nat):Int),.int .i64 a.next.P]) (.tmp rfl rfl) rfl) ?_))
 rintro _ w40 ⟨g39,rfl,hs42⟩
 refine st_m (m_box (cs:=[.int .i64 b.node,.int .u64 ((b.view.ID.N:Nat):Int),.int .i64 b.view.ID.P,.int .u16 ((b.view.Set:Nat):Int),.slice A26 n27 c28,.slice A30 n31 c32,.int .i64 b.safe,.int .u64 ((b.next.N:Nat):Int),.int .i64 b.next.P]) hs42 (v:=.agg #[.int .i64 b.node,.int .u64 ((b.view.ID.N:Nat):Int),.int .i64 b.view.ID.P,.int .u16 ((b.view.Set:Nat):Int),.slice A26 n27 c28,.slice A30 n31 c32,.int .i64 b.safe,.int .u64 ((b.next.N:Nat):Int),.int .i64 b.next.P]) (.tmp rfl rfl) rfl) ?_
 rintro _ w44 ⟨g43,rfl,hs46⟩
 refine st (v:=.bool false) (x_assign .const) ?_
 refine c_nil (n_then (c_seq (c_region (st (v:=.pointer (some ⟨g39,0 + 5,none⟩)) (fa62_3 (.tmp rfl rfl)) ?_))))
 refine st (v:=.slice A11 n12 c13) (ld25 (.tmp rfl rfl) (hs46.cell 1 rfl (0 + 5) rfl)) ?_
 refine st (v:=.int .i64 ((n12:Nat):Int)) (x_len (n:=n12) Tryd.underlying25 (.tmp rfl rfl)) ?_
 refine st (v:=.pointer (some ⟨g43,0 + 5,none⟩)) (fa62_3 (.tmp rfl rfl)) ?_
 refine st (v:=.slice A30 n31 c32) (ld25 (.tmp rfl rfl) (hs46.cell 0 rfl (0 + 5) rfl)) ?_
 refine st (v:=.int .i64 ((n31:Nat):Int)) (x_len (n:=n31) Tryd.underlying25 (.tmp rfl rfl)) ?_
 refine st (v:=.int .i64 (((min n12 n31):Nat):Int)) (x_minN (a:=n12) (b:=n31) (.tmp rfl rfl) (.tmp rfl rfl)) ?_
 refine st (v:=.int .i64 (((min n12 n31):Nat):Int)) (x_assign (.tmp rfl rfl)) ?_
 refine c_nil (n_then (c_seq (c_seq (q_region mixed hs46 (by kernel_rfl) ?_))))
 refine q_st (v:=.pointer (some ⟨g39,0 + 1,none⟩)) (fun w hs => (fa62_1 (.tmp rfl rfl))) ?_
 refine q_st (v:=.pointer (some ⟨g39,0 + 1 + 2,none⟩)) (fun w hs => (fa47_1 (.tmp rfl rfl))) ?_
 refine q_st (v:=.int .u16 ((a.view.Set:Nat):Int)) (fun w hs => (ld45 (.tmp rfl rfl) (hs.cell 1 rfl (0 + 1 + 2) rfl))) ?_
 refine q_st (v:=.pointer (some ⟨g43,0 + 1,none⟩)) (fun w hs => (fa62_1 (.tmp rfl rfl))) ?_
 refine q_st (v:=.pointer (some ⟨g43,0 + 1 + 2,none⟩)) (fun w hs => (fa47_1 (.tmp rfl rfl))) ?_
 refine q_st (v:=.int .u16 ((b.view.Set:Nat):Int)) (fun w hs => (ld45 (.tmp rfl rfl) (hs.cell 0 rfl (0 + 1 + 2) rfl))) ?_
 refine q_st (v:=.bool (decide ((((a.view.Set:Nat):Int):Int) ≠ ((b.view.Set:Nat):Int)))) (fun w hs => (x_neq (k:=.u16) (a:=((a.view.Set:Nat):Int)) (b:=((b.view.Set:Nat):Int)) (.tmp rfl rfl) (.tmp rfl rfl))) ?_
 refine q_st (v:=.bool (decide ((((a.view.Set:Nat):Int):Int) ≠ ((b.view.Set:Nat):Int)))) (fun w hs => (x_move (.tmp rfl rfl))) ?_
 refine jq 11 (fun ρ => ρ 31 = .bool ((decide ((((a.view.Set:Nat):Int):Int) ≠ ((b.view.Set:Nat):Int))) || (!(eqF (fun (y0:GItem) (y1:GItem) => (decide (y0 = y1))) (a.recv.take (min n12 n31)) (b.recv.take (min n12 n31)))))∧ρ 2 = .pointer (some ⟨g39,0,none⟩)∧ρ 3 = .pointer (some ⟨g43,0,none⟩)∧True) ?_ ?_
 rcases Bool.eq_false_or_eq_true (decide ((((a.view.Set:Nat):Int):Int) ≠ ((b.view.Set:Nat):Int))) with hc47 | hc47
 have hp47:(((a.view.Set:Nat):Int):Int) ≠ ((b.view.Set:Nat):Int):=of_decide_eq_true hc47
 refine q_no (yk 20 true rfl rfl hc47) rfl ?_
 refine q_no (yk 20 true rfl rfl hc47) rfl ?_
 refine q_no (yk 20 true rfl rfl hc47) rfl ?_
 refine q_no (yk 20 true rfl rfl hc47) rfl ?_
 refine q_no (yk 20 true rfl rfl hc47) rfl ?_
 refine q_no (yk 20 true rfl rfl hc47) rfl ?_
 refine q_no (yk 20 true rfl rfl hc47) rfl ?_
 refine q_no (yk 20 true rfl rfl hc47) rfl ?_
 refine q_no (yk 20 true rfl rfl hc47) rfl ?_
 refine q_no (yk 20 true rfl rfl hc47) rfl ?_
 refine q_st (v:=.bool true) (fun w hs => (x_pick_t (.tmp rfl (cVb hc47)) .const)) ?_
 exact jq_end ⟨(cVb (jor_t hc47)),rfl,rfl,True.intro⟩
 have hp47:¬ ((((a.view.Set:Nat):Int):Int) ≠ ((b.view.Set:Nat):Int)):=of_decide_eq_false hc47
 refine q_yes (yk 20 false rfl rfl hc47) ?_
 refine q_st (v:=.pointer (some ⟨g39,0 + 5,none⟩)) (fun w hs => (fa62_3 (.tmp rfl rfl))) ?_
 refine q_yes (yk 20 false rfl rfl hc47) ?_
 refine q_st (v:=.slice A11 n12 c13) (fun w hs => (ld25 (.tmp rfl rfl) (hs.cell 1 rfl (0 + 5) rfl))) ?_
 refine q_yes (yk 20 false rfl rfl hc47) ?_
 refine q_st (v:=.int .i64 (((min n12 n31):Nat):Int)) (fun w hs => (x_move (.tmp rfl rfl))) ?_
 refine q_yes (yk 20 false rfl rfl hc47) ?_
 refine q_st (v:=.slice A11 (min n12 n31) c13) (fun w hs => (sl_h (d:=kItem) Tryd.underlying25 inf34 (a:=(((min n12 n31):Nat):Int)) (.tmp rfl rfl) (.tmp rfl rfl) (by omega) (by omega))) ?_
 refine q_yes (yk 20 false rfl rfl hc47) ?_
 refine q_st (v:=.pointer (some ⟨g43,0 + 5,none⟩)) (fun w hs => (fa62_3 (.tmp rfl rfl))) ?_
 refine q_yes (yk 20 false rfl rfl hc47) ?_
 refine q_st (v:=.slice A30 n31 c32) (fun w hs => (ld25 (.tmp rfl rfl) (hs.cell 0 rfl (0 + 5) rfl))) ?_
 refine q_yes (yk 20 false rfl rfl hc47) ?_
 refine q_st (v:=.int .i64 (((min n12 n31):Nat):Int)) (fun w hs => (x_move (.tmp rfl rfl))) ?_
 refine q_yes (yk 20 false rfl rfl hc47) ?_
 refine q_st (v:=.slice A30 (min n12 n31) c32) (fun w hs => (sl_h (d:=kItem) Tryd.underlying25 inf34 (a:=(((min n12 n31):Nat):Int)) (.tmp rfl rfl) (.tmp rfl rfl) (by omega) (by omega))) ?_
 refine q_yes (yk 20 false rfl rfl hc47) ?_
 refine q_c (v:=.bool (eqF (fun (y0:GItem) (y1:GItem) => (decide (y0 = y1))) (a.recv.take (min n12 n31)) (b.recv.take (min n12 n31)))) cb19 .func (evs3 (.tmp rfl rfl) (.tmp rfl rfl) .func) (fun w hs => equalfunc_item hs (a.recv.take (min n12 n31)) (hl14.take (k:=(min n12 n31)) (by omega)) (b.recv.take (min n12 n31)) (hl33.take (k:=(min n12 n31)) (by omega)) (fun (y0:GItem) (y1:GItem) => (decide (y0 = y1))) cb20 (fun {_} {_} hs y0 {_} h0 y1 {_} h1 => same_item hs y0 h0 y1 h1 ) ) ?_
 refine q_yes (yk 20 false rfl rfl hc47) ?_
 refine q_st (v:=.bool (!(eqF (fun (y0:GItem) (y1:GItem) => (decide (y0 = y1))) (a.recv.take (min n12 n31)) (b.recv.take (min n12 n31))))) (fun w hs => (x_not (.tmp rfl rfl))) ?_
 refine q_st (v:=.bool (!(eqF (fun (y0:GItem) (y1:GItem) => (decide (y0 = y1))) (a.recv.take (min n12 n31)) (b.recv.take (min n12 n31))))) (fun w hs => (x_pick_f (.tmp rfl (cVb hc47)) (.tmp rfl rfl))) ?_
 exact jq_end ⟨(cVb (jor_f hc47)),rfl,rfl,True.intro⟩
 rintro ρ ⟨hρ48,hρ49,hρ50,_⟩
 refine q_nil ?_
 intro w hs52
 refine n_then ?_
 rcases Bool.eq_false_or_eq_true ((decide ((((a.view.Set:Nat):Int):Int) ≠ ((b.view.Set:Nat):Int))) || (!(eqF (fun (y0:GItem) (y1:GItem) => (decide (y0 = y1))) (a.recv.take (min n12 n31)) (b.recv.take (min n12 n31))))) with hc53 | hc53
 have hp53:((((a.view.Set:Nat):Int):Int) ≠ ((b.view.Set:Nat):Int)) ∨ (¬ ((eqF (fun (y0:GItem) (y1:GItem) => (decide (y0 = y1))) (a.recv.take (min n12 n31)) (b.recv.take (min n12 n31))) = true)):=((J_or decide_eq_true_iff (J_not Iff.rfl))).1 hc53
 refine c_cond_t (t:=true) (.tmp rfl (hρ48.trans (cVb hc53))) rfl ?_
 refine c_seq (c_region (st (v:=.bool false) (x_assign .const) ?_))
 refine c_nil (n_then (c_ret (r_then (leave_ret (res_one (v:=.bool false) rfl (.mk rfl rfl)) ?_))))
 have hans54:pairL a b = false:=pair_no (n:=(min n12 n31)) (by omega) (by have h9:=hc53; rw [eqF_dec] at h9; simpa using h9)
 rw [hans54]
 exact ⟨rfl,hs52.drop.drop⟩
 have hp53:¬ (((((a.view.Set:Nat):Int):Int) ≠ ((b.view.Set:Nat):Int)) ∨ (¬ ((eqF (fun (y0:GItem) (y1:GItem) => (decide (y0 = y1))) (a.recv.take (min n12 n31)) (b.recv.take (min n12 n31))) = true))):=J_no (J_or decide_eq_true_iff (J_not Iff.rfl)) hc53
 refine c_cond_f (t:=false) (.tmp rfl (hρ48.trans (cVb hc53))) rfl ?_
 refine c_skip (n_then (c_seq (c_region (st (v:=.pointer (some ⟨g39,0 + 7,none⟩)) (fa62_5 (.tmp rfl hρ49)) ?_))))
 refine st (v:=.pointer (some ⟨g39,0 + 7 + 0,none⟩)) (fa44_0 (.tmp rfl rfl)) ?_
 refine st (v:=.int .u64 ((a.next.N:Nat):Int)) (ld42 (.tmp rfl rfl) (hs52.cell 1 rfl (0 + 7 + 0) rfl)) ?_
 refine st (v:=.bool (decide ((((a.next.N:Nat):Int):Int) = 0))) (x_eql (k:=.u64) (a:=((a.next.N:Nat):Int)) (b:=0) (.tmp rfl rfl) .const) ?_
 refine st (v:=.bool (decide ((((a.next.N:Nat):Int):Int) = 0))) (x_move (.tmp rfl rfl)) ?_
 refine jw 6 (fun ρ w => ρ 42 = .bool ((decide ((((a.next.N:Nat):Int):Int) = 0)) || (!(decide (a.next = b.next))))∧ρ 2 = .pointer (some ⟨g39,0,none⟩)∧ρ 3 = .pointer (some ⟨g43,0,none⟩)∧St H w (obj g43 62 [.int .i64 b.node,.int .u64 ((b.view.ID.N:Nat):Int),.int .i64 b.view.ID.P,.int .u16 ((b.view.Set:Nat):Int),.slice A26 n27 c28,.slice A30 n31 c32,.int .i64 b.safe,.int .u64 ((b.next.N:Nat):Int),.int .i64 b.next.P]::obj g39 62 [.int .i64 a.node,.int .u64 ((a.view.ID.N:Nat):Int),.int .i64 a.view.ID.P,.int .u16 ((a.view.Set:Nat):Int),.slice A7 n8 c9,.slice A11 n12 c13,.int .i64 a.safe,.int .u64 ((a.next.N:Nat):Int),.int .i64 a.next.P]::L)) ?_ ?_
 rcases Bool.eq_false_or_eq_true (decide ((((a.next.N:Nat):Int):Int) = 0)) with hc55 | hc55
 have hp55:(((a.next.N:Nat):Int):Int) = 0:=of_decide_eq_true hc55
 refine g_no (yk 36 true rfl rfl hc55) rfl ?_
 refine g_no (yk 36 true rfl rfl hc55) rfl ?_
 refine g_no (yk 36 true rfl rfl hc55) rfl ?_
 refine g_no (yk 36 true rfl rfl hc55) rfl ?_
 refine g_no (yk 36 true rfl rfl hc55) rfl ?_
 refine st (v:=.bool true) (x_pick_t (.tmp rfl (cVb hc55)) .const) ?_
 exact jw_end ⟨(cVb (jor_t hc55)),hρ49,hρ50,hs52⟩
 have hp55:¬ ((((a.next.N:Nat):Int):Int) = 0):=of_decide_eq_false hc55
 refine g_yes (yk 36 false rfl rfl hc55) ?_
 refine st (v:=.pointer (some ⟨g39,0 + 7,none⟩)) (fa62_5 (.tmp rfl hρ49)) ?_
 refine g_yes (yk 36 false rfl rfl hc55) ?_
 refine st (v:=.agg #[.int .u64 ((a.next.N:Nat):Int),.int .i64 a.next.P]) (ld44 (cs:=[.int .u64 ((a.next.N:Nat):Int),.int .i64 a.next.P]) (.tmp rfl rfl) (hs52.at_ 1 rfl (0 + 7) rfl) rfl) ?_
 refine g_yes (yk 36 false rfl rfl hc55) ?_
 refine st (v:=.pointer (some ⟨g43,0 + 7,none⟩)) (fa62_5 (.tmp rfl hρ50)) ?_
 refine g_yes (yk 36 false rfl rfl hc55) ?_
 refine st (v:=.agg #[.int .u64 ((b.next.N:Nat):Int),.int .i64 b.next.P]) (ld44 (cs:=[.int .u64 ((b.next.N:Nat):Int),.int .i64 b.next.P]) (.tmp rfl rfl) (hs52.at_ 0 rfl (0 + 7) rfl) rfl) ?_
 refine g_yes (yk 36 false rfl rfl hc55) ?_
 refine st (v:=.bool (!((((a.next.N:Nat):Int) == ((b.next.N:Nat):Int)) && ((a.next.P == b.next.P) && true)))) (x_neqA eqg44 (.tmp rfl rfl) (.tmp rfl rfl) (fun d => eqs44 (d + 98) _ ((a.next.N:Nat):Int) ((b.next.N:Nat):Int) a.next.P b.next.P)) ?_
 refine st (v:=.bool (!(decide (a.next = b.next)))) (x_pick_f (.tmp rfl (cVb hc55)) (.tmp rfl (congrArg (fun z => Value.bool (!z)) (GViewID.beq_dec a.next b.next)))) ?_
 exact jw_end ⟨(cVb (jor_f hc55)),hρ49,hρ50,hs52⟩
 rintro ρ w ⟨hρ56,hρ57,hρ58,hs59⟩
 refine st (v:=.bool ((decide ((((a.next.N:Nat):Int):Int) = 0)) || (!(decide (a.next = b.next))))) (x_move (.tmp rfl hρ56)) ?_
 refine jw 8 (fun ρ w => ρ 51 = .bool (((decide ((((a.next.N:Nat):Int):Int) = 0)) || (!(decide (a.next = b.next)))) || (decide ((((n12:Nat):Int):Int) = ((n31:Nat):Int))))∧St H w (obj g43 62 [.int .i64 b.node,.int .u64 ((b.view.ID.N:Nat):Int),.int .i64 b.view.ID.P,.int .u16 ((b.view.Set:Nat):Int),.slice A26 n27 c28,.slice A30 n31 c32,.int .i64 b.safe,.int .u64 ((b.next.N:Nat):Int),.int .i64 b.next.P]::obj g39 62 [.int .i64 a.node,.int .u64 ((a.view.ID.N:Nat):Int),.int .i64 a.view.ID.P,.int .u16 ((a.view.Set:Nat):Int),.slice A7 n8 c9,.slice A11 n12 c13,.int .i64 a.safe,.int .u64 ((a.next.N:Nat):Int),.int .i64 a.next.P]::L)) ?_ ?_
 rcases Bool.eq_false_or_eq_true ((decide ((((a.next.N:Nat):Int):Int) = 0)) || (!(decide (a.next = b.next)))) with hc60 | hc60
 have hp60:((((a.next.N:Nat):Int):Int) = 0) ∨ (¬ (a.next = b.next)):=((J_or decide_eq_true_iff (J_not decide_eq_true_iff))).1 hc60
 refine g_no (yk 43 true rfl rfl hc60) rfl ?_
 refine g_no (yk 43 true rfl rfl hc60) rfl ?_
 refine g_no (yk 43 true rfl rfl hc60) rfl ?_
 refine g_no (yk 43 true rfl rfl hc60) rfl ?_
 refine g_no (yk 43 true rfl rfl hc60) rfl ?_
 refine g_no (yk 43 true rfl rfl hc60) rfl ?_
 refine g_no (yk 43 true rfl rfl hc60) rfl ?_
 refine st (v:=.bool true) (x_pick_t (.tmp rfl (cVb hc60)) .const) ?_
 exact jw_end ⟨(cVb (jor_t hc60)),hs59⟩
 have hp60:¬ (((((a.next.N:Nat):Int):Int) = 0) ∨ (¬ (a.next = b.next))):=J_no (J_or decide_eq_true_iff (J_not decide_eq_true_iff)) hc60
 refine g_yes (yk 43 false rfl rfl hc60) ?_
 refine st (v:=.pointer (some ⟨g39,0 + 5,none⟩)) (fa62_3 (.tmp rfl hρ57)) ?_
 refine g_yes (yk 43 false rfl rfl hc60) ?_
 refine st (v:=.slice A11 n12 c13) (ld25 (.tmp rfl rfl) (hs59.cell 1 rfl (0 + 5) rfl)) ?_
 refine g_yes (yk 43 false rfl rfl hc60) ?_
 refine st (v:=.int .i64 ((n12:Nat):Int)) (x_len (n:=n12) Tryd.underlying25 (.tmp rfl rfl)) ?_
 refine g_yes (yk 43 false rfl rfl hc60) ?_
 refine st (v:=.pointer (some ⟨g43,0 + 5,none⟩)) (fa62_3 (.tmp rfl hρ58)) ?_
 refine g_yes (yk 43 false rfl rfl hc60) ?_
 refine st (v:=.slice A30 n31 c32) (ld25 (.tmp rfl rfl) (hs59.cell 0 rfl (0 + 5) rfl)) ?_
 refine g_yes (yk 43 false rfl rfl hc60) ?_
 refine st (v:=.int .i64 ((n31:Nat):Int)) (x_len (n:=n31) Tryd.underlying25 (.tmp rfl rfl)) ?_
 refine g_yes (yk 43 false rfl rfl hc60) ?_
 refine st (v:=.bool (decide ((((n12:Nat):Int):Int) = ((n31:Nat):Int)))) (x_eql (k:=.i64) (a:=((n12:Nat):Int)) (b:=((n31:Nat):Int)) (.tmp rfl rfl) (.tmp rfl rfl)) ?_
 refine st (v:=.bool (decide ((((n12:Nat):Int):Int) = ((n31:Nat):Int)))) (x_pick_f (.tmp rfl (cVb hc60)) (.tmp rfl rfl)) ?_
 exact jw_end ⟨(cVb (jor_f hc60)),hs59⟩
 rintro ρ w ⟨hρ61,hs62⟩
 refine st (v:=.bool (((decide ((((a.next.N:Nat):Int):Int) = 0)) || (!(decide (a.next = b.next)))) || (decide ((((n12:Nat):Int):Int) = ((n31:Nat):Int))))) (x_assign (.tmp rfl hρ61)) ?_
 refine c_nil (n_then (c_ret (leave_ret (res_one (v:=.bool (((decide ((((a.next.N:Nat):Int):Int) = 0)) || (!(decide (a.next = b.next)))) || (decide ((((n12:Nat):Int):Int) = ((n31:Nat):Int))))) rfl (.mk rfl rfl)) ?_)))
 have hpq:pairL a b = (((decide ((((a.next.N:Nat):Int):Int) = 0)) || (!(decide (a.next = b.next)))) || (decide ((((n12:Nat):Int):Int) = ((n31:Nat):Int)))):=pair_end (n:=(min n12 n31)) (by have h8:=(by have h9:=hc53; rw [eqF_dec] at h9; simpa using h9); have:=h8.1; omega) (by omega) (And.right (by have h9:=hc53; rw [eqF_dec] at h9; simpa using h9)) (by congr 1; (congr 1; exact decide_eq_decide.2 (by omega); simp); exact decide_eq_decide.2 (by omega))
 rw [hpq]
 exact ⟨rfl,hs62.drop.drop⟩
end Go.Proofs.YtnikcgcbkdeeeaaDoor
