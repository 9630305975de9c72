/- Steps of the proofs over the functions of this seat, printed by a program (gen.py) and checked by Lean. -/
import Derived.Test.YtojlmilkdijiaaaDoorW00
import Derived.Test.YtojlmilkdijiaaaDoorProg
import Derived.Test.YtojlmilkdijiaaaDoorRows
import Derived.Lib.AppendZerosOnto
import Derived.Lib.Overlaps
set_option linter.unusedVariables false
set_option linter.unusedSimpArgs false
namespace Go.FM
open Go Go.ChangeShapes Go.WideShapes Go.ChangeAt Go.RowKit
structure Kd (α:Type) extends Kn α where
  bts:Nat
  bts0:0 < bts
structure Sl {α:Type} (d:Kd α) (H:Hp) (A:Option Addr) (n c:Nat) (xs:List α):Prop where
  sl:d.toKn.sl H A xs
  len:xs.length = n
  le:n ≤ c
  max:c ≤ maxLen
  bnd:n * d.bts ≤ 140737488351232
structure By (H:Hp) (A:Option Addr) (n c:Nat) (bs:List Nat):Prop extends Bs H A n c bs where
  bnd:n ≤ 140737488351232
def IB (x:Int):Prop:=-9223372036854775808 ≤ x∧x ≤ 9223372036854775807
section
variable {H H':Hp} {A:Option Addr} {n c:Nat}
theorem By.mono {bs:List Nat} (h:By H A n c bs) (hl:H.le H'):By H' A n c bs:=⟨h.toBs.mono hl,h.bnd⟩
theorem By.nil (H:Hp) (A:Option Addr):By H A 0 0 []:=⟨Bs.nil H A,by omega⟩
variable {α:Type} {d:Kd α} {xs:List α}
theorem Sl.mono (h:Sl d H A n c xs) (hl:H.le H'):Sl d H' A n c xs:=⟨Kn.sl_mono h.sl hl,h.len,h.le,h.max,h.bnd⟩
theorem Sl.nil (d:Kd α) (H:Hp) (A:Option Addr):Sl d H A 0 0 []:=⟨Kn.sl_nil A,rfl,Nat.le_refl _,Nat.zero_le _,by omega⟩
theorem Sl.take (h:Sl d H A n c xs) {k:Nat} (hk:k ≤ n):Sl d H A k c (xs.take k) :=
  ⟨Kn.sl_take h.sl k (by rw [h.len]; exact hk),by rw [List.length_take,h.len]; omega,Nat.le_trans hk h.le,h.max,Nat.le_trans (Nat.mul_le_mul_right _ hk) h.bnd⟩
theorem Sl.drop (h:Sl d H A n c xs) {k:Nat} (hk:k ≤ n):Sl d H (cutA A c k d.sz) (n - k) (c - k) (xs.drop k):=by
  refine ⟨Kn.sl_drop h.sl k (by rw [h.len]; exact hk) (by rw [h.len]; exact h.le),by rw [List.length_drop,h.len],by have:=h.le; omega,by have:=h.max; omega,Nat.le_trans (Nat.mul_le_mul_right _ (Nat.sub_le _ _)) h.bnd⟩
theorem Sl.get (h:Sl d H A n c xs) {i:Nat} (hi:i < n):∃ x b off cs,xs[i]? = some x∧A = some ⟨b,off,none⟩∧d.rep H x cs∧∀ {w:World} {L:List Res},St H w L → At w ⟨b,off + i * d.sz,none⟩ cs:=by
  have hi':i < xs.length:=by rw [h.len]; exact hi
  have hx:=List.getElem?_eq_getElem hi'
  obtain ⟨b,off,cs,hA,hr,hat⟩:=Kn.sl_get h.sl i hx
  exact ⟨_,b,off,cs,hx,hA,hr,hat⟩
theorem Sl.at_ (h:Sl d H A n c xs):∃ cells,d.toKn.rows H xs cells∧(xs = [] ∨ ∃ b off,A = some ⟨b,off,none⟩∧∀ {w:World} {L:List Res},St H w L → At w ⟨b,off,none⟩ cells):=by
  obtain ⟨cells,h1,h2⟩:=h.sl
  refine ⟨cells,h2,?_⟩
  by_cases hx:xs = []
  · exact .inl hx
  · refine .inr (h1.at_ fun e => ?_)
    have:=h2.1
    rw [e] at this
    have h3:0 < xs.length * d.sz:=Nat.mul_pos (List.length_pos_iff.2 hx) d.pos
    simp at this; omega
end
namespace Kn
variable {α:Type} {d:Kn α} {H:Hp} {xs:List α} {cells:List Value}
theorem rows_get (h:d.rows H xs cells) {i:Nat} (hi:i < xs.length):∃ x c,xs[i]? = some x∧d.rep H x c∧(cells.drop (i * d.sz)).take c.length = c:=by
  have hx:=List.getElem?_eq_getElem hi
  obtain ⟨c,h1,h2⟩:=h.2 i _ hx
  exact ⟨_,c,hx,h1,by rw [d.len h1]; exact h2⟩
theorem rows_set (h:d.rows H xs cells) {i:Nat} (hi:i < xs.length) {y:α} {c:List Value} (hr:d.rep H y c):d.rows H (xs.set i y) (splice cells (i * d.sz) c):=by
  have hl:=d.len hr
  have hle:(i + 1) * d.sz ≤ cells.length:=by rw [h.1]; exact Nat.mul_le_mul_right _ hi
  rw [Nat.add_mul,Nat.one_mul] at hle
  refine ⟨by rw [splice_length (by omega),h.1,List.length_set],fun j x hx => ?_⟩
  rw [List.getElem?_set] at hx
  by_cases hji:i = j
  · subst hji
    simp [hi] at hx
    subst hx
    refine ⟨c,hr,?_⟩
    apply List.ext_getElem?
    intro k
    rw [List.getElem?_take,List.getElem?_drop,splice_get (by omega)]
    by_cases hk:k < d.sz
    · rw [if_pos hk,if_pos (by omega)]; congr 1; omega
    · rw [if_neg hk,List.getElem?_eq_none (by omega)]
  · rw [if_neg hji] at hx
    obtain ⟨c',h1,h2⟩:=h.2 j x hx
    refine ⟨c',h1,?_⟩
    rw [← h2]
    apply List.ext_getElem?
    intro k
    rw [List.getElem?_take,List.getElem?_take,List.getElem?_drop,List.getElem?_drop]
    by_cases hk:k < d.sz
    · rw [if_pos hk,if_pos hk,splice_get (by omega),if_neg]
      intro ⟨ha,hb⟩
      rcases Nat.lt_or_gt_of_ne hji with h3 | h3
      · have:(i + 1) * d.sz ≤ j * d.sz:=Nat.mul_le_mul_right _ h3
        rw [Nat.add_mul,Nat.one_mul] at this; omega
      · have:(j + 1) * d.sz ≤ i * d.sz:=Nat.mul_le_mul_right _ h3
        rw [Nat.add_mul,Nat.one_mul] at this; omega
    · rw [if_neg hk,if_neg hk]
end Kn
theorem RowOk.splice {size n i:Nat} {v:Value} {cs vs:List Value} (h:RowOk size v n cs) (hl:i + vs.length ≤ cs.length):RowOk size v n (FM.splice cs i vs):=⟨by rw [splice_length hl]; exact h.1,h.2⟩
section
variable {α:Type} {d:Kd α} {H:Hp} {w:World} {L:List Res} {e n:Nat} {v:Value} {cs:List Value} {xs:List α}
theorem St.freezeSl (h:St H w (row e d.sz v n cs::L)) (ok:RowOk d.sz v n cs) (hk:d.toKn.rows H xs cs) (hn:n * d.bts ≤ 140737488351232):∃ H' A c,H.le H'∧St H' w L∧v = .slice A n c∧Sl d H' A n c xs:=by
  have hlen:xs.length = n:=by
    have h1:=hk.1
    rw [ok.1] at h1
    exact (Nat.eq_of_mul_eq_mul_right d.pos h1).symm
  rcases ok.2.2 with ⟨rfl,rfl⟩ | ⟨g,cap,rfl,hc⟩
  · refine ⟨H,none,0,Hp.le.refl H,h.drop,rfl,?_⟩
    rw [List.length_eq_zero_iff] at hlen
    subst hlen
    exact Sl.nil d H none
  · have hcm:cap ≤ maxLen:=by
      obtain ⟨cur,_,_,_,_,h5⟩:=h.rowIn 0 rfl rfl
      exact h5
    obtain ⟨H',A,c,h1,h2,h3,h4,h5⟩:=h.freezeRow ok
    injection h3 with ha hb hc'
    subst ha; subst hc'
    exact ⟨H',_,_,h1,h2,rfl,⟨cs,h5,Kn.rows_mono hk h1⟩,hlen,h4,hcm,hn⟩
end
def kI:Kd Int where
  sz:=1
  pos:=by decide
  rep _ x cs:=cs = [.int .i64 x]∧IB x
  len h:=by rw [h.1]; rfl
  one h:=by rw [h.1]; simp [Value.oneCell']
  mono _ h:=h
  bts:=8
  bts0:=by decide
def kU (k:IntKind) (B b:Nat) (hb:0 < b):Kd Nat where
  sz:=1
  pos:=by decide
  rep _ x cs:=cs = [.int k (x:Int)]∧x < B
  len h:=by rw [h.1]; rfl
  one h:=by rw [h.1]; simp [Value.oneCell']
  mono _ h:=h
  bts:=b
  bts0:=hb
def kBs:Kd (List Nat) where
  sz:=1
  pos:=by decide
  rep H x cs:=∃ A n c,cs = [.slice A n c]∧By H A n c x
  len h:=by obtain ⟨A,n,c,rfl,_⟩:=h; rfl
  one h:=by obtain ⟨A,n,c,rfl,_⟩:=h; simp [Value.oneCell']
  mono hl h:=by obtain ⟨A,n,c,rfl,h⟩:=h; exact ⟨A,n,c,rfl,h.mono hl⟩
  bts:=24
  bts0:=by decide
def kSl {α:Type} (d:Kd α):Kd (List α) where
  sz:=1
  pos:=by decide
  rep H x cs:=∃ A n c,cs = [.slice A n c]∧Sl d H A n c x
  len h:=by obtain ⟨A,n,c,rfl,_⟩:=h; rfl
  one h:=by obtain ⟨A,n,c,rfl,_⟩:=h; simp [Value.oneCell']
  mono hl h:=by obtain ⟨A,n,c,rfl,h⟩:=h; exact ⟨A,n,c,rfl,h.mono hl⟩
  bts:=24
  bts0:=by decide
def Opn {α:Type} (P:Program) (t:TypeId) (d:Kd α):Prop :=
  ∀ {Hh:Type} {enc:TypeId × Value → Hh} {W:World} {fuel:Nat} {cs:List Value} {x:DataW Hh × List MemPlace},
    DataW.trod enc P W 0 (fun _ => true) true fuel t cs = some x → (∀ n ∈ x.1.weights P t,n ≤ reachBytes) → ∃ a,d.rep (Hp.of W) a cs
section
variable {P:Program} {t e:TypeId}
theorem opn_i64 (ht:P.underlying t = some (.int .i64)):Opn P t kI:=fun h _ => by
  obtain ⟨n,rfl,_,hw⟩:=DataW.trod_int ht h
  simp [Lit.wf,IntKind.min,IntKind.max,IntKind.signed,IntKind.bits] at hw
  exact ⟨n,rfl,by constructor <;> omega⟩
theorem opn_nat {k:IntKind} {B b:Nat} {hb:0 < b} (ht:P.underlying t = some (.int k)) (hk:k.signed = false) (hB:2 ^ k.bits = B):Opn P t (kU k B b hb):=fun h _ => by
  obtain ⟨n,rfl,_,hw⟩:=DataW.trod_int ht h
  obtain ⟨m,rfl,hm⟩:=wf_nat hk hw
  exact ⟨m,rfl,by rw [← hB]; exact hm⟩
theorem weights_all_mem {Hh:Type} {l:List (DataW Hh)} {d:DataW Hh} (h:d ∈ l) {m:Nat} (hm:m ∈ d.weights P e):m ∈ DataW.weightsAll P e l:=by
  induction l with
  | nil => cases h
  | cons x l ih =>
    simp only [DataW.weightsAll,List.mem_append]
    rcases List.mem_cons.1 h with rfl | h
    · exact .inl hm
    · exact .inr (ih h)
theorem opn_rows {α:Type} {d:Kn α} {W:World} {a:Addr}:∀ (n:Nat),(∀ i,i < n → ∃ c x,c.length = d.sz∧(∀ j,j < d.sz → W.cell? ((a.add (i * d.sz)).add j) = c[j]?)∧d.rep (Hp.of W) x c) →
    ∃ (xs:List α) (cells:List Value),xs.length = n∧d.rows (Hp.of W) xs cells∧∀ i j,i < n → j < d.sz → W.cell? ((a.add (i * d.sz)).add j) = cells[i * d.sz + j]?
  | 0,_ => ⟨[],[],rfl,Kn.rows_nil d _,fun i j h _ => absurd h (Nat.not_lt_zero _)⟩
  | n + 1,h => by
    obtain ⟨xs,cells,h1,h2,h3⟩:=opn_rows n fun i hi => h i (by omega)
    obtain ⟨c,x,hc,hx,hr⟩:=h n (by omega)
    have hlen:cells.length = n * d.sz:=by rw [h2.1,h1]
    refine ⟨xs ++ [x],cells ++ c,by simp [h1],Kn.rows_snoc h2 hr,fun i j hi hj => ?_⟩
    by_cases hin:i < n
    · rw [h3 i j hin hj,List.getElem?_append_left]
      have:(i + 1) * d.sz ≤ n * d.sz:=Nat.mul_le_mul_right _ hin
      rw [Nat.add_mul,Nat.one_mul] at this; omega
    · obtain rfl:i = n:=by omega
      rw [hx j hj,List.getElem?_append_right (by omega)]
      congr 1; omega
theorem opn_sl {α:Type} {d:Kd α} (ht:P.underlying t = some (.slice e)) (hc:P.cellsOf e = d.sz) (hb:P.bytesOf e = d.bts) (he:Opn P e d):Opn P t (kSl d):=fun {Hh enc W fuel cs x} h hw => by
  rcases DataW.trod_slice ht h with ⟨rfl,rfl⟩ | ⟨a,len,cap,elems,rest,m,_,rfl,rfl,_,hl,hm,hlen,hel,hsp,_⟩
  · exact ⟨[],none,0,0,rfl,Sl.nil d _ none⟩
  · have hsz:len * d.bts ≤ 140737488351232:=by
      have:=hw ((elems.length + rest.length) * P.bytesOf e) (by simp [DataW.weights,ht])
      have hr:reachBytes = 140737488351232:=by decide
      rw [hr,hlen,hb] at this
      exact Nat.le_trans (Nat.mul_le_mul_right _ (Nat.le_add_right _ _)) this
    have hi:∀ i,i < len → ∃ c x,c.length = d.sz∧(∀ j,j < d.sz → W.cell? ((a.add (i * d.sz)).add j) = c[j]?)∧d.rep (Hp.of W) x c:=fun i hi => by
      have h1:=hel i hi
      rw [List.getElem?_eq_getElem (by omega)] at h1
      obtain ⟨c,hcs,htr⟩:=Option.bind_eq_some_iff.1 h1
      obtain ⟨_,h3,h4⟩:=World.cells?_some hcs
      rw [hc] at h3 h4
      obtain ⟨y,hy⟩:=he htr fun k hk => hw k (by
        simp only [DataW.weights,ht,List.mem_cons,List.mem_append]
        exact .inr (.inl (weights_all_mem (List.mem_map.2 ⟨_,List.getElem_mem _,rfl⟩) hk)))
      refine ⟨c,y,h3,fun j hj => ?_,hy⟩
      exact h4 j hj
    obtain ⟨xs,cells,h1,h2,h3⟩:=opn_rows (d:=d.toKn) len hi
    refine ⟨xs,some a,len,cap,rfl,⟨cells,?_,h2⟩,h1,hl,hm,hsz⟩
    by_cases h0:len = 0
    · subst h0
      exact .inl (List.eq_nil_of_length_eq_zero (by rw [h2.1,h1]; simp))
    · have hcl:cells.length = len * d.sz:=by rw [h2.1,h1]
      have h00:=h3 0 0 (by omega) d.pos
      have hp:0 < len * d.sz:=Nat.mul_pos (by omega) d.pos
      rw [Nat.zero_mul,Nat.zero_add,List.getElem?_eq_getElem (by omega)] at h00
      have hspot:a.spot = none:=by
        have h5:=World.cell?_spot h00
        obtain ⟨b,off,sp⟩:=a
        cases sp with
        | none => rfl
        | some s => simp [Addr.add] at h5
      obtain ⟨b,off,sp⟩:=a
      obtain rfl:sp = none:=hspot
      refine rd_of_cells fun k hk => ?_
      rw [hcl] at hk
      have hdv:k / d.sz < len:=by rw [Nat.mul_comm] at hk; exact Nat.div_lt_of_lt_mul hk
      have:=h3 (k / d.sz) (k % d.sz) hdv (Nat.mod_lt _ d.pos)
      rw [add_none,add_none] at this
      rw [add_none]
      have e1:=Nat.div_add_mod k d.sz
      rw [Nat.mul_comm] at e1
      rw [show off + k / d.sz * d.sz + k % d.sz = off + k by omega,e1] at this
      exact this
theorem opn_bytes (ht:P.underlying t = some (.slice e)) (he:P.underlying e = some (.int .u8)) (hc:P.cellsOf e = 1) (hb:P.bytesOf e = 1):Opn P t kBs:=fun {Hh enc W fuel cs x} h hw => by
  obtain ⟨xs,A,n,c,rfl,hs⟩:=opn_sl (d:=kU .u8 256 1 (by decide)) ht hc hb (opn_nat he rfl rfl) h hw
  refine ⟨xs,A,n,c,rfl,⟨?_,hs.len,hs.le,hs.max,?_⟩,by have:=hs.bnd; simpa [kU] using this⟩
  · obtain ⟨cells,h1,h2⟩:=hs.sl
    have e:cells = xs.map encB:=by
      apply List.ext_getElem?
      intro j
      have hl:=h2.1
      simp only [kU,Nat.mul_one] at hl
      by_cases hj:j < xs.length
      · obtain ⟨c',h3,h4⟩:=h2.2 j _ (List.getElem?_eq_getElem hj)
        obtain ⟨rfl,_⟩:=h3
        simp only [kU,Nat.mul_one] at h4
        have:=congrArg (fun l:List Value => l[0]?) h4
        simp [List.getElem?_take,List.getElem?_drop] at this
        rw [this]; simp [hj,encB]
      · rw [List.getElem?_eq_none (by omega),List.getElem?_eq_none (by simp; omega)]
    rw [← e]; exact h1
  · intro b hb'
    obtain ⟨cells,h1,h2⟩:=hs.sl
    obtain ⟨j,hj,rfl⟩:=List.mem_iff_getElem.1 hb'
    obtain ⟨c',h3,_⟩:=h2.2 j _ (List.getElem?_eq_getElem hj)
    exact h3.2
end
theorem opn_arg {α:Type} {Hh:Type} {enc:TypeId × Value → Hh} {P:Program} {W:World} {t:TypeId} {d:Kd α} {v:Value} {dd:DataW Hh} {ps:List MemPlace} {ts:List TypeId} {ds:List (DataW Hh)} {j:Nat} (ho:Opn P t d)
    (hd:DataW.Trod enc P W 0 (fun _ => true) true t v dd ps) (hz:(DataW.weightsEach P ts ds).all (· ≤ reachBytes) = true) (htj:ts[j]? = some t) (hdj:ds[j]? = some dd):∃ a,d.rep (Hp.of W) a v.cells.toList:=by
  obtain ⟨fuel,hf⟩:=hd
  exact ho hf fun n hn => by simpa using List.all_eq_true.1 hz _ (DataW.weights_mem_each htj hdj n hn)
section
variable {α:Type} {Hh:Type} {enc:TypeId × Value → Hh} {P:Program} {W:World} {t e:TypeId} {d:Kd α} {v:Value} {dd:DataW Hh} {ps:List MemPlace} {ts:List TypeId} {ds:List (DataW Hh)} {j:Nat} {r:Reach} {b0:Nat}
theorem arg_sl (ht:P.underlying t = some (.slice e)) (ho:Opn P t (kSl d)) (hval:Value.okWide P W r b0 t v) (hd:DataW.Trod enc P W 0 (fun _ => true) true t v dd ps) (hz:(DataW.weightsEach P ts ds).all (· ≤ reachBytes) = true)
    (htj:ts[j]? = some t) (hdj:ds[j]? = some dd):∃ A n c xs,v = .slice A n c∧Sl d (Hp.of W) A n c xs:=by
  obtain ⟨A,n,c,rfl⟩:=okWide_slice ht hval
  obtain ⟨xs,A',n',c',e1,h⟩:=opn_arg ho hd hz htj hdj
  injection e1 with e1 _
  injection e1 with ea eb ec
  subst ea; subst eb; subst ec
  exact ⟨_,_,_,xs,rfl,h⟩
end
theorem opn_parts {Hh:Type} {enc:TypeId × Value → Hh} {P:Program} {W:World} {t:TypeId} {fs:Array Field} {fuel:Nat} {cs:List Value} {x:DataW Hh × List MemPlace} (ht:P.underlying t = some (.struct fs))
    (h:DataW.trod enc P W 0 (fun _ => true) true fuel t cs = some x) (hw:∀ n ∈ x.1.weights P t,n ≤ reachBytes) :
    cs.length = P.cellsOf t∧∀ (i:Nat) (f:Field),fs[i]? = some f → ∀ {α:Type} {d:Kd α},Opn P f.type d → ∃ a,d.rep (Hp.of W) a ((cs.drop f.offset).take (P.cellsOf f.type)):=by
  obtain ⟨xs,n,rfl,rfl,hlen,hxs,hfs⟩:=DataW.trod_struct ht h
  refine ⟨hlen,fun i f hf α d ho => ?_⟩
  have hi:i < xs.length:=by rw [hxs]; exact (Array.getElem?_eq_some_iff.1 hf).1
  have h1:=hfs i f hf
  rw [List.getElem?_eq_getElem hi] at h1
  refine ho h1 fun m hm => hw m ?_
  simp only [DataW.weights,ht]
  refine DataW.weights_mem_each (j:=i) (t:=f.type) (d:=xs[i].1) ?_ ?_ m hm
  · rw [List.getElem?_map,Array.getElem?_toList,hf]; rfl
  · rw [List.getElem?_map,List.getElem?_eq_getElem hi]; rfl
end Go.FM
namespace Go.FM
open Go
section
variable {P:Program} {N:Nat} {ρ:Nat → Value} {H:Hp} {w w':World} {L:List Res} {t ty e bytes m c:Nat} {v:Value} {x y:Operand} {z:Value}
variable {α:Type} {d:Kd α} {xs ys:List α} {cs news:List Value}
theorem St.krowNil (h:St H w L) (e:Nat) (d:Kd α):St H w (row e d.sz (.slice none 0 0) ([]:List α).length []::L):=h.rowNil e d.sz
theorem RowOk.knil (d:Kd α):RowOk d.sz (.slice none 0 0) ([]:List α).length []:=RowOk.nil d.sz
def AppK (P:Program) (N:Nat) (ρ:Nat → Value) (w:World) (H:Hp) (L:List Res) (op:Op) (ty e:Nat) (d:Kd α) (xs:List α):Prop :=
  ∃ v' w',Ex P N ρ w op ty v' w'∧∃ cs',RowOk d.sz v' xs.length cs'∧d.toKn.rows H xs cs'∧St H w' (row e d.sz v' xs.length cs'::L)
theorem m_appK (hu:P.underlying t = some (.slice e)) (hi:Inf P e z d.sz bytes) (hzs:z.cells.size = d.sz) (h:St H w (row e d.sz v xs.length cs::L)) (ok:RowOk d.sz v xs.length cs) (hk:d.toKn.rows H xs cs)
    (hx:Ev N ρ x v) {a:Addr} (hy:Ev N ρ y (.slice (some a) m c)) (hk2:d.toKn.rows H ys news) (hm:ys.length = m) (hnews:At w a news) (hb:(xs.length + m) * bytes ≤ 140737488355328) (hb0:0 < bytes) :
    AppK P N ρ w H L (.call { callee:=.builtin .append,args:=#[x,y],argTypes:=#[t,t] }) ty e d (xs ++ ys):=by
  obtain ⟨v',w',h1,h2,h3⟩:=m_app (ty:=ty) hu hi hzs d.pos h ok hx hy (by rw [hk2.1,hm]) hnews (Kn.rows_one_cell hk2) hb hb0
  have e1:xs.length + m = (xs ++ ys).length:=by rw [List.length_append,hm]
  rw [e1] at h2 h3
  exact ⟨v',w',h1,_,h2,Kn.rows_append hk hk2,h3⟩
theorem m_appSl (hu:P.underlying t = some (.slice e)) (hi:Inf P e z d.sz bytes) (hzs:z.cells.size = d.sz) (h:St H w (row e d.sz v xs.length cs::L)) (ok:RowOk d.sz v xs.length cs) (hk:d.toKn.rows H xs cs)
    (hx:Ev N ρ x v) {A:Option Addr} (hy:Ev N ρ y (.slice A m c)) (hs:Sl d H A m c ys) (hb:(xs.length + m) * bytes ≤ 140737488355328) (hb0:0 < bytes) :
    AppK P N ρ w H L (.call { callee:=.builtin .append,args:=#[x,y],argTypes:=#[t,t] }) ty e d (xs ++ ys):=by
  obtain ⟨news,h1,h2⟩:=hs.at_
  rcases h2 with rfl | ⟨b,off,rfl,hat⟩
  · have hl:=hs.len
    simp only [List.length_nil] at hl
    subst hl
    obtain ⟨i0,e1,_⟩:=hi
    rw [List.append_nil]
    exact ⟨v,w,m_append0 hu e1 h ok hx hy,cs,ok,hk,h⟩
  · exact m_appK hu hi hzs h ok hk hx hy h1 hs.len (hat h) hb hb0
variable {A:Option Addr} {n:Nat} {lo hi_ mx:Operand} {a b:Int} {k k':IntKind}
theorem sl_h (hu:P.underlying t = some (.slice e)) (hi:Inf P e z d.sz bytes) (hx:Ev N ρ x (.slice A n c)) (hh:Ev N ρ hi_ (.int k a)) (h0:0 ≤ a) (h2:a ≤ c) :
    Ex P N ρ w (.slice t x none (some hi_) none) ty (.slice A a.toNat c) w:=by
  obtain ⟨i0,e1,_⟩:=hi
  exact x_slice_h hu e1 hx hh h0 h2
theorem sl_l (hu:P.underlying t = some (.slice e)) (hi:Inf P e z d.sz bytes) (hx:Ev N ρ x (.slice A n c)) (hl:Ev N ρ lo (.int k a)) (h0:0 ≤ a) (h1:a ≤ n) (h2:n ≤ c) :
    Ex P N ρ w (.slice t x (some lo) none none) ty (.slice (cutA A c a.toNat d.sz) (n - a.toNat) (c - a.toNat)) w:=by
  obtain ⟨i0,e1,_,e3,_⟩:=hi
  have:=x_slice_l (ty:=ty) (w:=w) hu e1 hx hl h0 h1 h2
  rwa [e3] at this
theorem sl_lh (hu:P.underlying t = some (.slice e)) (hi:Inf P e z d.sz bytes) (hx:Ev N ρ x (.slice A n c)) (hl:Ev N ρ lo (.int k a)) (hh:Ev N ρ hi_ (.int k' b)) (h0:0 ≤ a) (h1:a ≤ b) (h2:b ≤ c) :
    Ex P N ρ w (.slice t x (some lo) (some hi_) none) ty (.slice (cutA A c a.toNat d.sz) (b.toNat - a.toNat) (c - a.toNat)) w:=by
  obtain ⟨i0,e1,_,e3,_⟩:=hi
  have:=x_slice_lh (ty:=ty) (w:=w) hu e1 hx hl hh h0 h1 h2
  rwa [e3] at this
end
end Go.FM
namespace Go.FM
open Go
theorem Rd.hat {H:Hp} {b o:Nat} {cs:List Value} (h:Rd H (some ⟨b,o,none⟩) cs):∀ {w:World} {L:List Res},St H w L → At w ⟨b,o,none⟩ cs:=by
  intro w L hs
  rcases h with rfl | ⟨b',o',c,E,fr,e,h2,h3⟩
  · intro j u hu; simp at hu
  · injection e with e
    injection e with e1 e2
    subst e1; subst e2
    intro j u hu
    rw [add_none]
    exact cell_at (hs.fz b _ h2) (h3 j u hu)
section
variable {P:Program} {N:Nat} {ρ:Nat → Value} {ops:Array Oper} {rest:List Oper} {d ty:Nat} {pos:String} {aft:Array Edge} {C:World → Prop} {Qa:Act → Prop}
end
end Go.FM
namespace Go.FM
open Go
section
variable {P:Program} {N:Nat} {ρ:Nat → Value} {H:Hp} {w w':World} {L:List Res} {t ty e bytes n c:Nat} {v:Value} {x y:Operand} {z:Value} {yt:TypeId} {A:Option Addr}
theorem x_eqlSN (hu:P.underlying t = some (.slice e)) (hx:Ev N ρ x (.slice A n c)) (hy:Ev N ρ y (.slice none 0 0)):Ex P N ρ w (.binOp .eql t x y yt) ty (.bool A.isNone) w:=fun _ _ _ _ => by
  have h1:(en N ρ).eval x = .slice A n c:=hx
  have h2:(en N ρ).eval y = .slice none 0 0:=hy
  have hb:(binOp .eql t (.slice A n c) (.slice none 0 0)).run P w = .ok (.bool A.isNone) w:=by
    simp [binOp,run_equal_slice_nil w t e A n c hu]
  have hg:(eqGuard .eql t x y (.slice A n c) (.slice none 0 0)).run P w = .ok () w:=rfl
  simp [execOp,h1,h2,hg,hb]
theorem m_lit0 {size:Nat} (hu:P.underlying t = some (.slice e)) (hi:Inf P e z size bytes) (h:St H w L) :
    ∃ v' w',Ex P N ρ w (.buildSlice t 0 #[]) ty v' w'∧∃ g,v' = .slice (some ⟨g,0,none⟩) 0 0∧St H w' (obj g e []::L):=by
  refine ⟨_,w.alloc (.cells #[] e),fun _ _ _ _ => ?_,w.heap.size,rfl,h.alloc _⟩
  obtain ⟨i0,e1,e2,e3,_⟩:=hi
  simp [execOp,Instr.buildSlice,run_underlying hu,sizeOf,typeInfo,e1,Instr.fill,newRow]
  congr 2
  apply Array.ext_getElem?
  intro j
  simp
variable {α:Type} {d:Kd α} {xs:List α}
end
theorem Sl.isNone {α:Type} {d:Kd α} {H:Hp} {A:Option Addr} {n c:Nat} {xs:List α} (h:Sl d H A n c xs) (hA:A.isNone = true):xs = []:=by
  cases A with
  | some a => cases hA
  | none =>
    cases xs with
    | nil => rfl
    | cons x l =>
      obtain ⟨_,b,off,_,_,hA',_⟩:=h.get (i:=0) (by have:=h.len; simp at this; omega)
      cases hA'
theorem By.isNone {H:Hp} {A:Option Addr} {n c:Nat} {xs:List Nat} (h:By H A n c xs) (hA:A.isNone = true):xs = []:=by
  cases A with
  | some a => cases hA
  | none =>
    rcases h.toBs.at_ with h1 | ⟨b,off,hA',_⟩
    · exact h1
    · cases hA'
end Go.FM

set_option linter.unusedVariables false
set_option linter.unusedSimpArgs false
namespace Go.FM
open Go
structure GViewID where
  N:Nat
  P:Int
instance:DecidableEq GViewID:=fun a b => decidable_of_iff (a.N = b.N∧a.P = b.P) ⟨fun h => by cases a; cases b; simp_all,fun h => by rw [h]; simp⟩
instance:Inhabited GViewID:=⟨(GViewID.mk 0 0)⟩
structure GView where
  ID:GViewID
  Set:Nat
instance:DecidableEq GView:=fun a b => decidable_of_iff (a.ID = b.ID∧a.Set = b.Set) ⟨fun h => by cases a; cases b; simp_all,fun h => by rw [h]; simp⟩
instance:Inhabited GView:=⟨(GView.mk (GViewID.mk 0 0) 0)⟩
structure GItem where
  From:Int
  M:(List Nat)
instance:DecidableEq GItem:=fun a b => decidable_of_iff (a.From = b.From∧a.M = b.M) ⟨fun h => by cases a; cases b; simp_all,fun h => by rw [h]; simp⟩
instance:Inhabited GItem:=⟨(GItem.mk 0 [])⟩
structure GState where
  V:GViewID
  Floor:Int
  Items:(List GItem)
instance:DecidableEq GState:=fun a b => decidable_of_iff (a.V = b.V∧a.Floor = b.Floor∧a.Items = b.Items) ⟨fun h => by cases a; cases b; simp_all,fun h => by rw [h]; simp⟩
instance:Inhabited GState:=⟨(GState.mk (GViewID.mk 0 0) 0 [])⟩
structure GPacket where
  From:Int
  To:Int
  Bytes:(List Nat)
def kPacket:Kd GPacket where
  sz:=3
  pos:=by decide
  rep H x cs:=∃ (A1:Option Addr) (n2 c3:Nat),cs = [.int .i64 x.From,.int .i64 x.To,.slice A1 n2 c3]∧IB (x.From)∧IB (x.To)∧By H A1 n2 c3 x.Bytes
  len h:=by obtain ⟨A1,n2,c3,rfl,_⟩:=h; rfl
  one h:=by obtain ⟨A1,n2,c3,rfl,_⟩:=h; simp [Value.oneCell']
  mono hl h:=by obtain ⟨A1,n2,c3,rfl,h0,h1,h2⟩:=h; exact ⟨A1,n2,c3,rfl,h0,h1,h2.mono hl⟩
  bts:=40
  bts0:=by decide
instance:DecidableEq GPacket:=fun a b => decidable_of_iff (a.From = b.From∧a.To = b.To∧a.Bytes = b.Bytes) ⟨fun h => by cases a; cases b; simp_all,fun h => by rw [h]; simp⟩
instance:Inhabited GPacket:=⟨(GPacket.mk 0 0 [])⟩
structure GEvent where
  Kind:Nat
  View:GView
  From:Int
  M:(List Nat)
instance:DecidableEq GEvent:=fun a b => decidable_of_iff (a.Kind = b.Kind∧a.View = b.View∧a.From = b.From∧a.M = b.M) ⟨fun h => by cases a; cases b; simp_all,fun h => by rw [h]; simp⟩
instance:Inhabited GEvent:=⟨(GEvent.mk 0 (GView.mk (GViewID.mk 0 0) 0) 0 [])⟩
structure GFrame where
  Kind:Nat
  From:Int
  ID:GViewID
  Set:Nat
  Cur:GViewID
  Prom:GViewID
  States:(List GState)
  Base:Nat
  Msgs:(List (List Nat))
  Items:(List GItem)
  Ack:Nat
  Safe:Nat
instance:DecidableEq GFrame:=fun a b => decidable_of_iff (a.Kind = b.Kind∧a.From = b.From∧a.ID = b.ID∧a.Set = b.Set∧a.Cur = b.Cur∧a.Prom = b.Prom∧a.States = b.States∧a.Base = b.Base∧a.Msgs = b.Msgs∧a.Items = b.Items∧a.Ack = b.Ack∧a.Safe = b.Safe) ⟨fun h => by cases a; cases b; simp_all,fun h => by rw [h]; simp⟩
instance:Inhabited GFrame:=⟨(GFrame.mk 0 0 (GViewID.mk 0 0) 0 (GViewID.mk 0 0) (GViewID.mk 0 0) [] 0 [] [] 0 0)⟩
structure GAsk where
  Kind:Nat
  Most:Int
instance:DecidableEq GAsk:=fun a b => decidable_of_iff (a.Kind = b.Kind∧a.Most = b.Most) ⟨fun h => by cases a; cases b; simp_all,fun h => by rw [h]; simp⟩
instance:Inhabited GAsk:=⟨(GAsk.mk 0 0)⟩
end Go.FM

set_option linter.unusedVariables false
set_option linter.unusedSimpArgs false
namespace Go.FM
open Go
structure GAct where
  Kind:Nat
  I:Int
  K:Int
  P:(List Nat)
def kAct:Kd GAct where
  sz:=4
  pos:=by decide
  rep H x cs:=∃ (A1:Option Addr) (n2 c3:Nat),cs = [.int .u8 (x.Kind:Int),.int .i64 x.I,.int .i64 x.K,.slice A1 n2 c3]∧x.Kind < 256∧IB (x.I)∧IB (x.K)∧By H A1 n2 c3 x.P
  len h:=by obtain ⟨A1,n2,c3,rfl,_⟩:=h; rfl
  one h:=by obtain ⟨A1,n2,c3,rfl,_⟩:=h; simp [Value.oneCell']
  mono hl h:=by obtain ⟨A1,n2,c3,rfl,h0,h1,h2,h3⟩:=h; exact ⟨A1,n2,c3,rfl,h0,h1,h2,h3.mono hl⟩
  bts:=48
  bts0:=by decide
instance:DecidableEq GAct:=fun a b => decidable_of_iff (a.Kind = b.Kind∧a.I = b.I∧a.K = b.K∧a.P = b.P) ⟨fun h => by cases a; cases b; simp_all,fun h => by rw [h]; simp⟩
instance:Inhabited GAct:=⟨(GAct.mk 0 0 0 [])⟩
end Go.FM

set_option linter.unusedVariables false
set_option linter.unusedSimpArgs false
namespace Go.Proofs.YtojlmilkdijiaaaDoor
open Go Go.FM Go.Proofs
set_option maxRecDepth 100000
theorem mixed:Tryd.prog.follows .mixedOrders = true:=by kernel_rfl
theorem inf3:Inf Tryd.prog 3 (.int .i64 0) 1 8:=Inf.mk (by kernel_rfl)
theorem inf4:Inf Tryd.prog 4 (.bool false) 1 1:=Inf.mk (by kernel_rfl)
theorem inf5:Inf Tryd.prog 5 (.int .u8 0) 1 1:=Inf.mk (by kernel_rfl)
theorem inf22:Inf Tryd.prog 22 (.slice none 0 0) 1 24:=Inf.mk (by kernel_rfl)
theorem inf29:Inf Tryd.prog 29 (.int .u16 0) 1 2:=Inf.mk (by kernel_rfl)
theorem inf37:Inf Tryd.prog 37 (.agg #[.int .i64 0,.int .i64 0,.slice none 0 0]) 3 40:=Inf.mk (by kernel_rfl)
theorem inf51:Inf Tryd.prog 51 (.slice none 0 0) 1 24:=Inf.mk (by kernel_rfl)
theorem inf52:Inf Tryd.prog 52 (.slice none 0 0) 1 24:=Inf.mk (by kernel_rfl)
theorem inf53:Inf Tryd.prog 53 (.agg #[.bool false,.bool false,.bool false,.bool false,.bool false,.bool false,.bool false,.bool false,.bool false,.bool false,.bool false,.bool false,.bool false,.bool false,.bool false,.bool false]) 16 16:=Inf.mk (by kernel_rfl)
theorem inf54:Inf Tryd.prog 54 (.agg #[.bool false,.bool false,.bool false,.bool false,.bool false,.bool false,.bool false,.bool false,.bool false,.bool false,.bool false,.bool false,.bool false,.bool false,.bool false,.bool false,.bool false,.bool false,.bool false,.bool false,.bool false,.bool false,.bool false,.bool false,.bool false,.bool false,.bool false,.bool false,.bool false,.bool false,.bool false,.bool false,.bool false,.bool false,.bool false,.bool false,.bool false,.bool false,.bool false,.bool false,.bool false,.bool false,.bool false,.bool false,.bool false,.bool false,.bool false,.bool false,.bool false,.bool false,.bool false,.bool false,.bool false,.bool false,.bool false,.bool false,.bool false,.bool false,.bool false,.bool false,.bool false,.bool false,.bool false,.bool false,.bool false,.bool false,.bool false,.bool false,.bool false,.bool false,.bool false,.bool false,.bool false,.bool false,.bool false,.bool false,.bool false,.bool false,.bool false,.bool false,.bool false,.bool false,.bool false,.bool false,.bool false,.bool false,.bool false,.bool false,.bool false,.bool false,.bool false,.bool false,.bool false,.bool false,.bool false,.bool false,.bool false,.bool false,.bool false,.bool false,.bool false,.bool false,.bool false,.bool false,.bool false,.bool false,.bool false,.bool false,.bool false,.bool false,.bool false,.bool false,.bool false,.bool false,.bool false,.bool false,.bool false,.bool false,.bool false,.bool false,.bool false,.bool false,.bool false,.bool false,.bool false,.bool false,.bool false,.bool false,.bool false,.bool false,.bool false,.bool false,.bool false,.bool false,.bool false,.bool false,.bool false,.bool false,.bool false,.bool false,.bool false,.bool false,.bool false,.bool false,.bool false,.bool false,.bool false,.bool false,.bool false,.bool false,.bool false,.bool false,.bool false,.bool false,.bool false,.bool false,.bool false,.bool false,.bool false,.bool false,.bool false,.bool false,.bool false,.bool false,.bool false,.bool false,.bool false,.bool false,.bool false,.bool false,.bool false,.bool false,.bool false,.bool false,.bool false,.bool false,.bool false,.bool false,.bool false,.bool false,.bool false,.bool false,.bool false,.bool false,.bool false,.bool false,.bool false,.bool false,.bool false,.bool false,.bool false,.bool false,.bool false,.bool false,.bool false,.bool false,.bool false,.bool false,.bool false,.bool false,.bool false,.bool false,.bool false,.bool false,.bool false,.bool false,.bool false,.bool false,.bool false,.bool false,.bool false,.bool false,.bool false,.bool false,.bool false,.bool false,.bool false,.bool false,.bool false,.bool false,.bool false,.bool false,.bool false,.bool false,.bool false,.bool false,.bool false,.bool false,.bool false,.bool false,.bool false,.bool false,.bool false,.bool false,.bool false,.bool false,.bool false,.bool false,.bool false,.bool false,.bool false,.bool false,.bool false,.bool false,.bool false,.bool false,.bool false,.bool false,.bool false,.bool false,.bool false,.bool false,.bool false,.bool false,.bool false,.bool false]) 256 256:=Inf.mk (by kernel_rfl)
theorem inf56:Inf Tryd.prog 56 (.agg #[.int .i64 0,.slice none 0 0,.slice none 0 0,.bool false,.bool false,.bool false,.bool false,.bool false,.bool false,.bool false,.bool false,.bool false,.bool false,.bool false,.bool false,.bool false,.bool false,.bool false,.bool false,.bool false,.bool false,.bool false,.bool false,.bool false,.bool false,.bool false,.bool false,.bool false,.bool false,.bool false,.bool false,.bool false,.bool false,.bool false,.bool false,.bool false,.bool false,.bool false,.bool false,.bool false,.bool false,.bool false,.bool false,.bool false,.bool false,.bool false,.bool false,.bool false,.bool false,.bool false,.bool false,.bool false,.bool false,.bool false,.bool false,.bool false,.bool false,.bool false,.bool false,.bool false,.bool false,.bool false,.bool false,.bool false,.bool false,.bool false,.bool false,.bool false,.bool false,.bool false,.bool false,.bool false,.bool false,.bool false,.bool false,.bool false,.bool false,.bool false,.bool false,.bool false,.bool false,.bool false,.bool false,.bool false,.bool false,.bool false,.bool false,.bool false,.bool false,.bool false,.bool false,.bool false,.bool false,.bool false,.bool false,.bool false,.bool false,.bool false,.bool false,.bool false,.bool false,.bool false,.bool false,.bool false,.bool false,.bool false,.bool false,.bool false,.bool false,.bool false,.bool false,.bool false,.bool false,.bool false,.bool false,.bool false,.bool false,.bool false,.bool false,.bool false,.bool false,.bool false,.bool false,.bool false,.bool false,.bool false,.bool false,.bool false,.bool false,.bool false,.bool false,.bool false,.bool false,.bool false,.bool false,.bool false,.bool false,.bool false,.bool false,.bool false,.bool false,.bool false,.bool false,.bool false,.bool false,.bool false,.bool false,.bool false,.bool false,.bool false,.bool false,.bool false,.bool false,.bool false,.bool false,.bool false,.bool false,.bool false,.bool false,.bool false,.bool false,.bool false,.bool false,.bool false,.bool false,.bool false,.bool false,.bool false,.bool false,.bool false,.bool false,.bool false,.bool false,.bool false,.bool false,.bool false,.bool false,.bool false,.bool false,.bool false,.bool false,.bool false,.bool false,.bool false,.bool false,.bool false,.bool false,.bool false,.bool false,.bool false,.bool false,.bool false,.bool false,.bool false,.bool false,.bool false,.bool false,.bool false,.bool false,.bool false,.bool false,.bool false,.bool false,.bool false,.bool false,.bool false,.bool false,.bool false,.bool false,.bool false,.bool false,.bool false,.bool false,.bool false,.bool false,.bool false,.bool false,.bool false,.bool false,.bool false,.bool false,.bool false,.bool false,.bool false,.bool false,.bool false,.bool false,.bool false,.bool false,.bool false,.bool false,.bool false,.bool false,.bool false,.bool false,.bool false,.bool false,.bool false,.bool false,.bool false,.bool false,.bool false,.bool false,.bool false,.bool false,.bool false,.bool false,.bool false,.bool false,.bool false,.bool false,.bool false,.bool false,.bool false,.bool false,.bool false,.bool false,.bool false,.bool false,.int .i64 0]) 260 320:=Inf.mk (by kernel_rfl)
theorem inf58:Inf Tryd.prog 58 (.agg #[.int .u8 0,.int .i64 0,.int .i64 0,.slice none 0 0]) 4 48:=Inf.mk (by kernel_rfl)
theorem inf62:Inf Tryd.prog 62 (.agg #[.int .u16 0,.int .u16 0,.int .u16 0,.int .u16 0,.int .u16 0,.int .u16 0,.int .u16 0,.int .u16 0,.int .u16 0,.int .u16 0,.int .u16 0,.int .u16 0,.int .u16 0,.int .u16 0,.int .u16 0,.int .u16 0]) 16 32:=Inf.mk (by kernel_rfl)
theorem inf64:Inf Tryd.prog 64 (.agg #[.int .i64 0,.slice none 0 0,.slice none 0 0,.int .u16 0,.int .u16 0,.int .u16 0,.int .u16 0,.int .u16 0,.int .u16 0,.int .u16 0,.int .u16 0,.int .u16 0,.int .u16 0,.int .u16 0,.int .u16 0,.int .u16 0,.int .u16 0,.int .u16 0,.int .u16 0,.int .i64 0]) 20 96:=Inf.mk (by kernel_rfl)
theorem sc3:scalarT Tryd.prog 3 = true:=by kernel_rfl
theorem ld3 {N:Nat} {ρ:Nat → Value} {w:World} {ty:Nat} {x:Operand} {ad:Addr} {v:Value} (hx:Ev N ρ x (.pointer (some ad))) (hc:w.cell? ad = some v):Ex Tryd.prog N ρ w (.load 3 x) ty v w:=x_load sc3 hx hc
theorem sto3 {N:Nat} {ρ:Nat → Value} {H:Hp} {w:World} {L:List Res} {g T ty i:Nat} {x y:Operand} {cs cs':List Value} {v:Value} (h:St H w (obj g T cs::L)) (hx:Ev N ρ x (.pointer (some ⟨g,i,none⟩))) (hy:Ev N ρ y v) (hsz:v.cells.size = 1) (hl:i + 1 ≤ cs.length) (h1:∀ u ∈ v.cells.toList,u.oneCell' = true) (hsp:splice cs i v.cells.toList = cs'):∃ w',Ex0 Tryd.prog N ρ w (.store 3 x y) ty w'∧St H w' (obj g T cs'::L):=by
  obtain ⟨i0,e1,_,e3,_⟩:=inf3
  exact m_store e1 h hx hy (by rw [e3]; exact hsz) (by rw [e3]; exact hl) h1 hsp
theorem stor3 {N:Nat} {ρ:Nat → Value} {H:Hp} {w:World} {L:List Res} {g e size n cap ty i:Nat} {x y:Operand} {xs xs':List Value} {v u:Value} (h:St H w (row e size v n xs::L)) (hv:v = .slice (some ⟨g,0,none⟩) n cap) (hx:Ev N ρ x (.pointer (some ⟨g,i,none⟩))) (hy:Ev N ρ y u) (hsz:u.cells.size = 1) (hl:i + 1 ≤ xs.length) (h1:∀ u' ∈ u.cells.toList,u'.oneCell' = true) (hsp:splice xs i u.cells.toList = xs'):∃ w',Ex0 Tryd.prog N ρ w (.store 3 x y) ty w'∧St H w' (row e size v n xs'::L):=by
  obtain ⟨i0,e1,_,e3,_⟩:=inf3
  exact m_storeRow e1 h hv hx hy (by rw [e3]; exact hsz) (by rw [e3]; exact hl) h1 hsp
theorem sc4:scalarT Tryd.prog 4 = true:=by kernel_rfl
theorem ld4 {N:Nat} {ρ:Nat → Value} {w:World} {ty:Nat} {x:Operand} {ad:Addr} {v:Value} (hx:Ev N ρ x (.pointer (some ad))) (hc:w.cell? ad = some v):Ex Tryd.prog N ρ w (.load 4 x) ty v w:=x_load sc4 hx hc
theorem sto4 {N:Nat} {ρ:Nat → Value} {H:Hp} {w:World} {L:List Res} {g T ty i:Nat} {x y:Operand} {cs cs':List Value} {v:Value} (h:St H w (obj g T cs::L)) (hx:Ev N ρ x (.pointer (some ⟨g,i,none⟩))) (hy:Ev N ρ y v) (hsz:v.cells.size = 1) (hl:i + 1 ≤ cs.length) (h1:∀ u ∈ v.cells.toList,u.oneCell' = true) (hsp:splice cs i v.cells.toList = cs'):∃ w',Ex0 Tryd.prog N ρ w (.store 4 x y) ty w'∧St H w' (obj g T cs'::L):=by
  obtain ⟨i0,e1,_,e3,_⟩:=inf4
  exact m_store e1 h hx hy (by rw [e3]; exact hsz) (by rw [e3]; exact hl) h1 hsp
theorem sc5:scalarT Tryd.prog 5 = true:=by kernel_rfl
theorem ld5 {N:Nat} {ρ:Nat → Value} {w:World} {ty:Nat} {x:Operand} {ad:Addr} {v:Value} (hx:Ev N ρ x (.pointer (some ad))) (hc:w.cell? ad = some v):Ex Tryd.prog N ρ w (.load 5 x) ty v w:=x_load sc5 hx hc
theorem stor5 {N:Nat} {ρ:Nat → Value} {H:Hp} {w:World} {L:List Res} {g e size n cap ty i:Nat} {x y:Operand} {xs xs':List Value} {v u:Value} (h:St H w (row e size v n xs::L)) (hv:v = .slice (some ⟨g,0,none⟩) n cap) (hx:Ev N ρ x (.pointer (some ⟨g,i,none⟩))) (hy:Ev N ρ y u) (hsz:u.cells.size = 1) (hl:i + 1 ≤ xs.length) (h1:∀ u' ∈ u.cells.toList,u'.oneCell' = true) (hsp:splice xs i u.cells.toList = xs'):∃ w',Ex0 Tryd.prog N ρ w (.store 5 x y) ty w'∧St H w' (row e size v n xs'::L):=by
  obtain ⟨i0,e1,_,e3,_⟩:=inf5
  exact m_storeRow e1 h hv hx hy (by rw [e3]; exact hsz) (by rw [e3]; exact hl) h1 hsp
theorem sc22:scalarT Tryd.prog 22 = true:=by kernel_rfl
theorem ld22 {N:Nat} {ρ:Nat → Value} {w:World} {ty:Nat} {x:Operand} {ad:Addr} {v:Value} (hx:Ev N ρ x (.pointer (some ad))) (hc:w.cell? ad = some v):Ex Tryd.prog N ρ w (.load 22 x) ty v w:=x_load sc22 hx hc
theorem sto22 {N:Nat} {ρ:Nat → Value} {H:Hp} {w:World} {L:List Res} {g T ty i:Nat} {x y:Operand} {cs cs':List Value} {v:Value} (h:St H w (obj g T cs::L)) (hx:Ev N ρ x (.pointer (some ⟨g,i,none⟩))) (hy:Ev N ρ y v) (hsz:v.cells.size = 1) (hl:i + 1 ≤ cs.length) (h1:∀ u ∈ v.cells.toList,u.oneCell' = true) (hsp:splice cs i v.cells.toList = cs'):∃ w',Ex0 Tryd.prog N ρ w (.store 22 x y) ty w'∧St H w' (obj g T cs'::L):=by
  obtain ⟨i0,e1,_,e3,_⟩:=inf22
  exact m_store e1 h hx hy (by rw [e3]; exact hsz) (by rw [e3]; exact hl) h1 hsp
theorem sc29:scalarT Tryd.prog 29 = true:=by kernel_rfl
theorem ld29 {N:Nat} {ρ:Nat → Value} {w:World} {ty:Nat} {x:Operand} {ad:Addr} {v:Value} (hx:Ev N ρ x (.pointer (some ad))) (hc:w.cell? ad = some v):Ex Tryd.prog N ρ w (.load 29 x) ty v w:=x_load sc29 hx hc
theorem sto29 {N:Nat} {ρ:Nat → Value} {H:Hp} {w:World} {L:List Res} {g T ty i:Nat} {x y:Operand} {cs cs':List Value} {v:Value} (h:St H w (obj g T cs::L)) (hx:Ev N ρ x (.pointer (some ⟨g,i,none⟩))) (hy:Ev N ρ y v) (hsz:v.cells.size = 1) (hl:i + 1 ≤ cs.length) (h1:∀ u ∈ v.cells.toList,u.oneCell' = true) (hsp:splice cs i v.cells.toList = cs'):∃ w',Ex0 Tryd.prog N ρ w (.store 29 x y) ty w'∧St H w' (obj g T cs'::L):=by
  obtain ⟨i0,e1,_,e3,_⟩:=inf29
  exact m_store e1 h hx hy (by rw [e3]; exact hsz) (by rw [e3]; exact hl) h1 hsp
theorem ag37:aggT Tryd.prog 37 = true:=by kernel_rfl
theorem ld37 {N:Nat} {ρ:Nat → Value} {w:World} {ty:Nat} {x:Operand} {ad:Addr} {cs:List Value} (hx:Ev N ρ x (.pointer (some ad))) (hc:At w ad cs) (hl:cs.length = 3):Ex Tryd.prog N ρ w (.load 37 x) ty (.agg cs.toArray) w:=by
  obtain ⟨i0,h1,_,h3,_⟩:=inf37
  exact x_loadA ag37 h1 hx hc (by rw [h3]; exact hl)
theorem lv37 {w:World} {ad:Addr} {cs:List Value} (hc:At w ad cs) (hl:cs.length = 3):(loadVar 37 ad).run Tryd.prog w = .ok (.agg cs.toArray) w:=by
  obtain ⟨i0,h1,_,h3,_⟩:=inf37
  exact run_loadVar_t ag37 h1 hc (by rw [h3]; exact hl)
theorem sto37 {N:Nat} {ρ:Nat → Value} {H:Hp} {w:World} {L:List Res} {g T ty i:Nat} {x y:Operand} {cs cs':List Value} {v:Value} (h:St H w (obj g T cs::L)) (hx:Ev N ρ x (.pointer (some ⟨g,i,none⟩))) (hy:Ev N ρ y v) (hsz:v.cells.size = 3) (hl:i + 3 ≤ cs.length) (h1:∀ u ∈ v.cells.toList,u.oneCell' = true) (hsp:splice cs i v.cells.toList = cs'):∃ w',Ex0 Tryd.prog N ρ w (.store 37 x y) ty w'∧St H w' (obj g T cs'::L):=by
  obtain ⟨i0,e1,_,e3,_⟩:=inf37
  exact m_store e1 h hx hy (by rw [e3]; exact hsz) (by rw [e3]; exact hl) h1 hsp
theorem al37 {N:Nat} {ρ:Nat → Value} {H:Hp} {w:World} {L:List Res} {ty:Nat} {cs:List Value} (h:St H w L) (hv:(.agg #[.int .i64 0,.int .i64 0,.slice none 0 0]:Value).cells = cs.toArray):∃ v' w',Ex Tryd.prog N ρ w (.alloc 37) ty v' w'∧∃ g,v' = .pointer (some ⟨g,0,none⟩)∧St H w' (obj g 37 cs::L):=by
  obtain ⟨i0,e1,e2,_,_⟩:=inf37
  exact m_alloc e1 e2 h hv
theorem sc51:scalarT Tryd.prog 51 = true:=by kernel_rfl
theorem ld51 {N:Nat} {ρ:Nat → Value} {w:World} {ty:Nat} {x:Operand} {ad:Addr} {v:Value} (hx:Ev N ρ x (.pointer (some ad))) (hc:w.cell? ad = some v):Ex Tryd.prog N ρ w (.load 51 x) ty v w:=x_load sc51 hx hc
theorem sto51 {N:Nat} {ρ:Nat → Value} {H:Hp} {w:World} {L:List Res} {g T ty i:Nat} {x y:Operand} {cs cs':List Value} {v:Value} (h:St H w (obj g T cs::L)) (hx:Ev N ρ x (.pointer (some ⟨g,i,none⟩))) (hy:Ev N ρ y v) (hsz:v.cells.size = 1) (hl:i + 1 ≤ cs.length) (h1:∀ u ∈ v.cells.toList,u.oneCell' = true) (hsp:splice cs i v.cells.toList = cs'):∃ w',Ex0 Tryd.prog N ρ w (.store 51 x y) ty w'∧St H w' (obj g T cs'::L):=by
  obtain ⟨i0,e1,_,e3,_⟩:=inf51
  exact m_store e1 h hx hy (by rw [e3]; exact hsz) (by rw [e3]; exact hl) h1 hsp
theorem sc52:scalarT Tryd.prog 52 = true:=by kernel_rfl
theorem ld52 {N:Nat} {ρ:Nat → Value} {w:World} {ty:Nat} {x:Operand} {ad:Addr} {v:Value} (hx:Ev N ρ x (.pointer (some ad))) (hc:w.cell? ad = some v):Ex Tryd.prog N ρ w (.load 52 x) ty v w:=x_load sc52 hx hc
theorem sto52 {N:Nat} {ρ:Nat → Value} {H:Hp} {w:World} {L:List Res} {g T ty i:Nat} {x y:Operand} {cs cs':List Value} {v:Value} (h:St H w (obj g T cs::L)) (hx:Ev N ρ x (.pointer (some ⟨g,i,none⟩))) (hy:Ev N ρ y v) (hsz:v.cells.size = 1) (hl:i + 1 ≤ cs.length) (h1:∀ u ∈ v.cells.toList,u.oneCell' = true) (hsp:splice cs i v.cells.toList = cs'):∃ w',Ex0 Tryd.prog N ρ w (.store 52 x y) ty w'∧St H w' (obj g T cs'::L):=by
  obtain ⟨i0,e1,_,e3,_⟩:=inf52
  exact m_store e1 h hx hy (by rw [e3]; exact hsz) (by rw [e3]; exact hl) h1 hsp
theorem ag58:aggT Tryd.prog 58 = true:=by kernel_rfl
theorem ld58 {N:Nat} {ρ:Nat → Value} {w:World} {ty:Nat} {x:Operand} {ad:Addr} {cs:List Value} (hx:Ev N ρ x (.pointer (some ad))) (hc:At w ad cs) (hl:cs.length = 4):Ex Tryd.prog N ρ w (.load 58 x) ty (.agg cs.toArray) w:=by
  obtain ⟨i0,h1,_,h3,_⟩:=inf58
  exact x_loadA ag58 h1 hx hc (by rw [h3]; exact hl)
theorem sto58 {N:Nat} {ρ:Nat → Value} {H:Hp} {w:World} {L:List Res} {g T ty i:Nat} {x y:Operand} {cs cs':List Value} {v:Value} (h:St H w (obj g T cs::L)) (hx:Ev N ρ x (.pointer (some ⟨g,i,none⟩))) (hy:Ev N ρ y v) (hsz:v.cells.size = 4) (hl:i + 4 ≤ cs.length) (h1:∀ u ∈ v.cells.toList,u.oneCell' = true) (hsp:splice cs i v.cells.toList = cs'):∃ w',Ex0 Tryd.prog N ρ w (.store 58 x y) ty w'∧St H w' (obj g T cs'::L):=by
  obtain ⟨i0,e1,_,e3,_⟩:=inf58
  exact m_store e1 h hx hy (by rw [e3]; exact hsz) (by rw [e3]; exact hl) h1 hsp
theorem al58 {N:Nat} {ρ:Nat → Value} {H:Hp} {w:World} {L:List Res} {ty:Nat} {cs:List Value} (h:St H w L) (hv:(.agg #[.int .u8 0,.int .i64 0,.int .i64 0,.slice none 0 0]:Value).cells = cs.toArray):∃ v' w',Ex Tryd.prog N ρ w (.alloc 58) ty v' w'∧∃ g,v' = .pointer (some ⟨g,0,none⟩)∧St H w' (obj g 58 cs::L):=by
  obtain ⟨i0,e1,e2,_,_⟩:=inf58
  exact m_alloc e1 e2 h hv
theorem fa37_0 {N:Nat} {ρ:Nat → Value} {w:World} {ty b o:Nat} {x:Operand} (hx:Ev N ρ x (.pointer (some ⟨b,o,none⟩))):Ex Tryd.prog N ρ w (.fieldAddr 37 x 0) ty (.pointer (some ⟨b,o + 0,none⟩)) w:=by
  obtain ⟨i0,h1,_,h3,_⟩:=inf3
  have:=x_fieldAddr (ty:=ty) (w:=w) Tryd.underlying37 (f:=0) rfl h1 (by rw [h3]; decide) hx
  rwa [add_none] at this
theorem fa37_1 {N:Nat} {ρ:Nat → Value} {w:World} {ty b o:Nat} {x:Operand} (hx:Ev N ρ x (.pointer (some ⟨b,o,none⟩))):Ex Tryd.prog N ρ w (.fieldAddr 37 x 1) ty (.pointer (some ⟨b,o + 1,none⟩)) w:=by
  obtain ⟨i0,h1,_,h3,_⟩:=inf3
  have:=x_fieldAddr (ty:=ty) (w:=w) Tryd.underlying37 (f:=1) rfl h1 (by rw [h3]; decide) hx
  rwa [add_none] at this
theorem fa37_2 {N:Nat} {ρ:Nat → Value} {w:World} {ty b o:Nat} {x:Operand} (hx:Ev N ρ x (.pointer (some ⟨b,o,none⟩))):Ex Tryd.prog N ρ w (.fieldAddr 37 x 2) ty (.pointer (some ⟨b,o + 2,none⟩)) w:=by
  obtain ⟨i0,h1,_,h3,_⟩:=inf22
  have:=x_fieldAddr (ty:=ty) (w:=w) Tryd.underlying37 (f:=2) rfl h1 (by rw [h3]; decide) hx
  rwa [add_none] at this
theorem fa56_0 {N:Nat} {ρ:Nat → Value} {w:World} {ty b o:Nat} {x:Operand} (hx:Ev N ρ x (.pointer (some ⟨b,o,none⟩))):Ex Tryd.prog N ρ w (.fieldAddr 56 x 0) ty (.pointer (some ⟨b,o + 0,none⟩)) w:=by
  obtain ⟨i0,h1,_,h3,_⟩:=inf3
  have:=x_fieldAddr (ty:=ty) (w:=w) Tryd.underlying56 (f:=0) rfl h1 (by rw [h3]; decide) hx
  rwa [add_none] at this
theorem fa56_1 {N:Nat} {ρ:Nat → Value} {w:World} {ty b o:Nat} {x:Operand} (hx:Ev N ρ x (.pointer (some ⟨b,o,none⟩))):Ex Tryd.prog N ρ w (.fieldAddr 56 x 1) ty (.pointer (some ⟨b,o + 1,none⟩)) w:=by
  obtain ⟨i0,h1,_,h3,_⟩:=inf51
  have:=x_fieldAddr (ty:=ty) (w:=w) Tryd.underlying56 (f:=1) rfl h1 (by rw [h3]; decide) hx
  rwa [add_none] at this
theorem fa56_2 {N:Nat} {ρ:Nat → Value} {w:World} {ty b o:Nat} {x:Operand} (hx:Ev N ρ x (.pointer (some ⟨b,o,none⟩))):Ex Tryd.prog N ρ w (.fieldAddr 56 x 2) ty (.pointer (some ⟨b,o + 2,none⟩)) w:=by
  obtain ⟨i0,h1,_,h3,_⟩:=inf52
  have:=x_fieldAddr (ty:=ty) (w:=w) Tryd.underlying56 (f:=2) rfl h1 (by rw [h3]; decide) hx
  rwa [add_none] at this
theorem fa56_3 {N:Nat} {ρ:Nat → Value} {w:World} {ty b o:Nat} {x:Operand} (hx:Ev N ρ x (.pointer (some ⟨b,o,none⟩))):Ex Tryd.prog N ρ w (.fieldAddr 56 x 3) ty (.pointer (some ⟨b,o + 3,none⟩)) w:=by
  obtain ⟨i0,h1,_,h3,_⟩:=inf54
  have:=x_fieldAddr (ty:=ty) (w:=w) Tryd.underlying56 (f:=3) rfl h1 (by rw [h3]; decide) hx
  rwa [add_none] at this
theorem fa56_4 {N:Nat} {ρ:Nat → Value} {w:World} {ty b o:Nat} {x:Operand} (hx:Ev N ρ x (.pointer (some ⟨b,o,none⟩))):Ex Tryd.prog N ρ w (.fieldAddr 56 x 4) ty (.pointer (some ⟨b,o + 259,none⟩)) w:=by
  obtain ⟨i0,h1,_,h3,_⟩:=inf3
  have:=x_fieldAddr (ty:=ty) (w:=w) Tryd.underlying56 (f:=4) rfl h1 (by rw [h3]; decide) hx
  rwa [add_none] at this
theorem fa58_0 {N:Nat} {ρ:Nat → Value} {w:World} {ty b o:Nat} {x:Operand} (hx:Ev N ρ x (.pointer (some ⟨b,o,none⟩))):Ex Tryd.prog N ρ w (.fieldAddr 58 x 0) ty (.pointer (some ⟨b,o + 0,none⟩)) w:=by
  obtain ⟨i0,h1,_,h3,_⟩:=inf5
  have:=x_fieldAddr (ty:=ty) (w:=w) Tryd.underlying58 (f:=0) rfl h1 (by rw [h3]; decide) hx
  rwa [add_none] at this
theorem fa58_1 {N:Nat} {ρ:Nat → Value} {w:World} {ty b o:Nat} {x:Operand} (hx:Ev N ρ x (.pointer (some ⟨b,o,none⟩))):Ex Tryd.prog N ρ w (.fieldAddr 58 x 1) ty (.pointer (some ⟨b,o + 1,none⟩)) w:=by
  obtain ⟨i0,h1,_,h3,_⟩:=inf3
  have:=x_fieldAddr (ty:=ty) (w:=w) Tryd.underlying58 (f:=1) rfl h1 (by rw [h3]; decide) hx
  rwa [add_none] at this
theorem fa58_2 {N:Nat} {ρ:Nat → Value} {w:World} {ty b o:Nat} {x:Operand} (hx:Ev N ρ x (.pointer (some ⟨b,o,none⟩))):Ex Tryd.prog N ρ w (.fieldAddr 58 x 2) ty (.pointer (some ⟨b,o + 2,none⟩)) w:=by
  obtain ⟨i0,h1,_,h3,_⟩:=inf3
  have:=x_fieldAddr (ty:=ty) (w:=w) Tryd.underlying58 (f:=2) rfl h1 (by rw [h3]; decide) hx
  rwa [add_none] at this
theorem fa58_3 {N:Nat} {ρ:Nat → Value} {w:World} {ty b o:Nat} {x:Operand} (hx:Ev N ρ x (.pointer (some ⟨b,o,none⟩))):Ex Tryd.prog N ρ w (.fieldAddr 58 x 3) ty (.pointer (some ⟨b,o + 3,none⟩)) w:=by
  obtain ⟨i0,h1,_,h3,_⟩:=inf22
  have:=x_fieldAddr (ty:=ty) (w:=w) Tryd.underlying58 (f:=3) rfl h1 (by rw [h3]; decide) hx
  rwa [add_none] at this
theorem fa64_0 {N:Nat} {ρ:Nat → Value} {w:World} {ty b o:Nat} {x:Operand} (hx:Ev N ρ x (.pointer (some ⟨b,o,none⟩))):Ex Tryd.prog N ρ w (.fieldAddr 64 x 0) ty (.pointer (some ⟨b,o + 0,none⟩)) w:=by
  obtain ⟨i0,h1,_,h3,_⟩:=inf3
  have:=x_fieldAddr (ty:=ty) (w:=w) Tryd.underlying64 (f:=0) rfl h1 (by rw [h3]; decide) hx
  rwa [add_none] at this
theorem fa64_1 {N:Nat} {ρ:Nat → Value} {w:World} {ty b o:Nat} {x:Operand} (hx:Ev N ρ x (.pointer (some ⟨b,o,none⟩))):Ex Tryd.prog N ρ w (.fieldAddr 64 x 1) ty (.pointer (some ⟨b,o + 1,none⟩)) w:=by
  obtain ⟨i0,h1,_,h3,_⟩:=inf51
  have:=x_fieldAddr (ty:=ty) (w:=w) Tryd.underlying64 (f:=1) rfl h1 (by rw [h3]; decide) hx
  rwa [add_none] at this
theorem fa64_2 {N:Nat} {ρ:Nat → Value} {w:World} {ty b o:Nat} {x:Operand} (hx:Ev N ρ x (.pointer (some ⟨b,o,none⟩))):Ex Tryd.prog N ρ w (.fieldAddr 64 x 2) ty (.pointer (some ⟨b,o + 2,none⟩)) w:=by
  obtain ⟨i0,h1,_,h3,_⟩:=inf52
  have:=x_fieldAddr (ty:=ty) (w:=w) Tryd.underlying64 (f:=2) rfl h1 (by rw [h3]; decide) hx
  rwa [add_none] at this
theorem fa64_3 {N:Nat} {ρ:Nat → Value} {w:World} {ty b o:Nat} {x:Operand} (hx:Ev N ρ x (.pointer (some ⟨b,o,none⟩))):Ex Tryd.prog N ρ w (.fieldAddr 64 x 3) ty (.pointer (some ⟨b,o + 3,none⟩)) w:=by
  obtain ⟨i0,h1,_,h3,_⟩:=inf62
  have:=x_fieldAddr (ty:=ty) (w:=w) Tryd.underlying64 (f:=3) rfl h1 (by rw [h3]; decide) hx
  rwa [add_none] at this
theorem fa64_4 {N:Nat} {ρ:Nat → Value} {w:World} {ty b o:Nat} {x:Operand} (hx:Ev N ρ x (.pointer (some ⟨b,o,none⟩))):Ex Tryd.prog N ρ w (.fieldAddr 64 x 4) ty (.pointer (some ⟨b,o + 19,none⟩)) w:=by
  obtain ⟨i0,h1,_,h3,_⟩:=inf3
  have:=x_fieldAddr (ty:=ty) (w:=w) Tryd.underlying64 (f:=4) rfl h1 (by rw [h3]; decide) hx
  rwa [add_none] at this
theorem ix22 {N:Nat} {ρ:Nat → Value} {w:World} {ty b o n c:Nat} {A:Option Addr} {x y:Operand} {k:IntKind} {i:Int} (hx:Ev N ρ x (.slice A n c)) (hA:A = some ⟨b,o,none⟩) (hy:Ev N ρ y (.int k i)) (h0:0 ≤ i) (h1:i < n):Ex Tryd.prog N ρ w (.indexAddr 22 x y) ty (.pointer (some ⟨b,o + i.toNat * 1,none⟩)) w:=by
  obtain ⟨i0,e1,_,e3,_⟩:=inf5
  subst hA
  have:=x_indexAddr (ty:=ty) (w:=w) Tryd.underlying22 e1 hx hy h0 h1
  rwa [add_none,e3] at this
theorem ixo22 {N:Nat} {ρ:Nat → Value} {w:World} {ty b o o' n c:Nat} {A:Option Addr} {x y:Operand} {k:IntKind} {i:Int} (hx:Ev N ρ x (.slice A n c)) (hA:A = some ⟨b,o,none⟩) (hy:Ev N ρ y (.int k i)) (h0:0 ≤ i) (h1:i < n) (ho:o + i.toNat * 1 = o'):Ex Tryd.prog N ρ w (.indexAddr 22 x y) ty (.pointer (some ⟨b,o',none⟩)) w:=by
  subst ho
  exact ix22 hx hA hy h0 h1
theorem ix49 {N:Nat} {ρ:Nat → Value} {w:World} {ty b o n c:Nat} {A:Option Addr} {x y:Operand} {k:IntKind} {i:Int} (hx:Ev N ρ x (.slice A n c)) (hA:A = some ⟨b,o,none⟩) (hy:Ev N ρ y (.int k i)) (h0:0 ≤ i) (h1:i < n):Ex Tryd.prog N ρ w (.indexAddr 49 x y) ty (.pointer (some ⟨b,o + i.toNat * 4,none⟩)) w:=by
  obtain ⟨i0,e1,_,e3,_⟩:=inf58
  subst hA
  have:=x_indexAddr (ty:=ty) (w:=w) Tryd.underlying49 e1 hx hy h0 h1
  rwa [add_none,e3] at this
theorem ixo49 {N:Nat} {ρ:Nat → Value} {w:World} {ty b o o' n c:Nat} {A:Option Addr} {x y:Operand} {k:IntKind} {i:Int} (hx:Ev N ρ x (.slice A n c)) (hA:A = some ⟨b,o,none⟩) (hy:Ev N ρ y (.int k i)) (h0:0 ≤ i) (h1:i < n) (ho:o + i.toNat * 4 = o'):Ex Tryd.prog N ρ w (.indexAddr 49 x y) ty (.pointer (some ⟨b,o',none⟩)) w:=by
  subst ho
  exact ix49 hx hA hy h0 h1
theorem ix51 {N:Nat} {ρ:Nat → Value} {w:World} {ty b o n c:Nat} {A:Option Addr} {x y:Operand} {k:IntKind} {i:Int} (hx:Ev N ρ x (.slice A n c)) (hA:A = some ⟨b,o,none⟩) (hy:Ev N ρ y (.int k i)) (h0:0 ≤ i) (h1:i < n):Ex Tryd.prog N ρ w (.indexAddr 51 x y) ty (.pointer (some ⟨b,o + i.toNat * 3,none⟩)) w:=by
  obtain ⟨i0,e1,_,e3,_⟩:=inf37
  subst hA
  have:=x_indexAddr (ty:=ty) (w:=w) Tryd.underlying51 e1 hx hy h0 h1
  rwa [add_none,e3] at this
theorem ixo51 {N:Nat} {ρ:Nat → Value} {w:World} {ty b o o' n c:Nat} {A:Option Addr} {x y:Operand} {k:IntKind} {i:Int} (hx:Ev N ρ x (.slice A n c)) (hA:A = some ⟨b,o,none⟩) (hy:Ev N ρ y (.int k i)) (h0:0 ≤ i) (h1:i < n) (ho:o + i.toNat * 3 = o'):Ex Tryd.prog N ρ w (.indexAddr 51 x y) ty (.pointer (some ⟨b,o',none⟩)) w:=by
  subst ho
  exact ix51 hx hA hy h0 h1
theorem ix52 {N:Nat} {ρ:Nat → Value} {w:World} {ty b o n c:Nat} {A:Option Addr} {x y:Operand} {k:IntKind} {i:Int} (hx:Ev N ρ x (.slice A n c)) (hA:A = some ⟨b,o,none⟩) (hy:Ev N ρ y (.int k i)) (h0:0 ≤ i) (h1:i < n):Ex Tryd.prog N ρ w (.indexAddr 52 x y) ty (.pointer (some ⟨b,o + i.toNat * 1,none⟩)) w:=by
  obtain ⟨i0,e1,_,e3,_⟩:=inf3
  subst hA
  have:=x_indexAddr (ty:=ty) (w:=w) Tryd.underlying52 e1 hx hy h0 h1
  rwa [add_none,e3] at this
theorem ixo52 {N:Nat} {ρ:Nat → Value} {w:World} {ty b o o' n c:Nat} {A:Option Addr} {x y:Operand} {k:IntKind} {i:Int} (hx:Ev N ρ x (.slice A n c)) (hA:A = some ⟨b,o,none⟩) (hy:Ev N ρ y (.int k i)) (h0:0 ≤ i) (h1:i < n) (ho:o + i.toNat * 1 = o'):Ex Tryd.prog N ρ w (.indexAddr 52 x y) ty (.pointer (some ⟨b,o',none⟩)) w:=by
  subst ho
  exact ix52 hx hA hy h0 h1
theorem ix53 {N:Nat} {ρ:Nat → Value} {w:World} {ty b o:Nat} {x y:Operand} {k:IntKind} {i:Int} (hx:Ev N ρ x (.pointer (some ⟨b,o,none⟩))) (hy:Ev N ρ y (.int k i)) (h0:0 ≤ i) (h1:i < 16):Ex Tryd.prog N ρ w (.indexAddr 53 x y) ty (.pointer (some ⟨b,o + i.toNat * 1,none⟩)) w:=by
  obtain ⟨i0,e1,_,e3,_⟩:=inf4
  have:=x_indexAddrArr (ty:=ty) (w:=w) (n:=16) Tryd.underlying53 e1 hx hy h0 h1
  rwa [add_none,e3] at this
theorem ixo53 {N:Nat} {ρ:Nat → Value} {w:World} {ty b o o':Nat} {x y:Operand} {k:IntKind} {i:Int} (hx:Ev N ρ x (.pointer (some ⟨b,o,none⟩))) (hy:Ev N ρ y (.int k i)) (h0:0 ≤ i) (h1:i < 16) (ho:o + i.toNat * 1 = o'):Ex Tryd.prog N ρ w (.indexAddr 53 x y) ty (.pointer (some ⟨b,o',none⟩)) w:=by
  subst ho
  exact ix53 hx hy h0 h1
theorem ix54 {N:Nat} {ρ:Nat → Value} {w:World} {ty b o:Nat} {x y:Operand} {k:IntKind} {i:Int} (hx:Ev N ρ x (.pointer (some ⟨b,o,none⟩))) (hy:Ev N ρ y (.int k i)) (h0:0 ≤ i) (h1:i < 16):Ex Tryd.prog N ρ w (.indexAddr 54 x y) ty (.pointer (some ⟨b,o + i.toNat * 16,none⟩)) w:=by
  obtain ⟨i0,e1,_,e3,_⟩:=inf53
  have:=x_indexAddrArr (ty:=ty) (w:=w) (n:=16) Tryd.underlying54 e1 hx hy h0 h1
  rwa [add_none,e3] at this
theorem ixo54 {N:Nat} {ρ:Nat → Value} {w:World} {ty b o o':Nat} {x y:Operand} {k:IntKind} {i:Int} (hx:Ev N ρ x (.pointer (some ⟨b,o,none⟩))) (hy:Ev N ρ y (.int k i)) (h0:0 ≤ i) (h1:i < 16) (ho:o + i.toNat * 16 = o'):Ex Tryd.prog N ρ w (.indexAddr 54 x y) ty (.pointer (some ⟨b,o',none⟩)) w:=by
  subst ho
  exact ix54 hx hy h0 h1
theorem ix62 {N:Nat} {ρ:Nat → Value} {w:World} {ty b o:Nat} {x y:Operand} {k:IntKind} {i:Int} (hx:Ev N ρ x (.pointer (some ⟨b,o,none⟩))) (hy:Ev N ρ y (.int k i)) (h0:0 ≤ i) (h1:i < 16):Ex Tryd.prog N ρ w (.indexAddr 62 x y) ty (.pointer (some ⟨b,o + i.toNat * 1,none⟩)) w:=by
  obtain ⟨i0,e1,_,e3,_⟩:=inf29
  have:=x_indexAddrArr (ty:=ty) (w:=w) (n:=16) Tryd.underlying62 e1 hx hy h0 h1
  rwa [add_none,e3] at this
theorem ixo62 {N:Nat} {ρ:Nat → Value} {w:World} {ty b o o':Nat} {x y:Operand} {k:IntKind} {i:Int} (hx:Ev N ρ x (.pointer (some ⟨b,o,none⟩))) (hy:Ev N ρ y (.int k i)) (h0:0 ≤ i) (h1:i < 16) (ho:o + i.toNat * 1 = o'):Ex Tryd.prog N ρ w (.indexAddr 62 x y) ty (.pointer (some ⟨b,o',none⟩)) w:=by
  subst ho
  exact ix62 hx hy h0 h1
theorem ix83 {N:Nat} {ρ:Nat → Value} {w:World} {ty b o:Nat} {x y:Operand} {k:IntKind} {i:Int} (hx:Ev N ρ x (.pointer (some ⟨b,o,none⟩))) (hy:Ev N ρ y (.int k i)) (h0:0 ≤ i) (h1:i < 32):Ex Tryd.prog N ρ w (.indexAddr 83 x y) ty (.pointer (some ⟨b,o + i.toNat * 1,none⟩)) w:=by
  obtain ⟨i0,e1,_,e3,_⟩:=inf5
  have:=x_indexAddrArr (ty:=ty) (w:=w) (n:=32) Tryd.underlying83 e1 hx hy h0 h1
  rwa [add_none,e3] at this
theorem bl37 {N:Nat} {ρ:Nat → Value} {w:World} {ty:Nat} {parts:List (Nat × Operand)} {ps:List (Nat × Value)} {cs:List Value} (hps:Evp N ρ parts ps) (hf:fillL (([(0,1),(1,1),(2,1)]:List (Nat × Nat))[·]?) [.int .i64 0,.int .i64 0,.slice none 0 0] ps = some cs):Ex Tryd.prog N ρ w (.build 37 parts.toArray) ty (.agg cs.toArray) w :=
  x_bld (places:=[(0,1),(1,1),(2,1)]) Tryd.underlying37 inf37 hps (by kernel_rfl) hf
theorem bl56 {N:Nat} {ρ:Nat → Value} {w:World} {ty:Nat} {parts:List (Nat × Operand)} {ps:List (Nat × Value)} {cs:List Value} (hps:Evp N ρ parts ps) (hf:fillL (([(0,1),(1,1),(2,1),(3,256),(259,1)]:List (Nat × Nat))[·]?) [.int .i64 0,.slice none 0 0,.slice none 0 0,.bool false,.bool false,.bool false,.bool false,.bool false,.bool false,.bool false,.bool false,.bool false,.bool false,.bool false,.bool false,.bool false,.bool false,.bool false,.bool false,.bool false,.bool false,.bool false,.bool false,.bool false,.bool false,.bool false,.bool false,.bool false,.bool false,.bool false,.bool false,.bool false,.bool false,.bool false,.bool false,.bool false,.bool false,.bool false,.bool false,.bool false,.bool false,.bool false,.bool false,.bool false,.bool false,.bool false,.bool false,.bool false,.bool false,.bool false,.bool false,.bool false,.bool false,.bool false,.bool false,.bool false,.bool false,.bool false,.bool false,.bool false,.bool false,.bool false,.bool false,.bool false,.bool false,.bool false,.bool false,.bool false,.bool false,.bool false,.bool false,.bool false,.bool false,.bool false,.bool false,.bool false,.bool false,.bool false,.bool false,.bool false,.bool false,.bool false,.bool false,.bool false,.bool false,.bool false,.bool false,.bool false,.bool false,.bool false,.bool false,.bool false,.bool false,.bool false,.bool false,.bool false,.bool false,.bool false,.bool false,.bool false,.bool false,.bool false,.bool false,.bool false,.bool false,.bool false,.bool false,.bool false,.bool false,.bool false,.bool false,.bool false,.bool false,.bool false,.bool false,.bool false,.bool false,.bool false,.bool false,.bool false,.bool false,.bool false,.bool false,.bool false,.bool false,.bool false,.bool false,.bool false,.bool false,.bool false,.bool false,.bool false,.bool false,.bool false,.bool false,.bool false,.bool false,.bool false,.bool false,.bool false,.bool false,.bool false,.bool false,.bool false,.bool false,.bool false,.bool false,.bool false,.bool false,.bool false,.bool false,.bool false,.bool false,.bool false,.bool false,.bool false,.bool false,.bool false,.bool false,.bool false,.bool false,.bool false,.bool false,.bool false,.bool false,.bool false,.bool false,.bool false,.bool false,.bool false,.bool false,.bool false,.bool false,.bool false,.bool false,.bool false,.bool false,.bool false,.bool false,.bool false,.bool false,.bool false,.bool false,.bool false,.bool false,.bool false,.bool false,.bool false,.bool false,.bool false,.bool false,.bool false,.bool false,.bool false,.bool false,.bool false,.bool false,.bool false,.bool false,.bool false,.bool false,.bool false,.bool false,.bool false,.bool false,.bool false,.bool false,.bool false,.bool false,.bool false,.bool false,.bool false,.bool false,.bool false,.bool false,.bool false,.bool false,.bool false,.bool false,.bool false,.bool false,.bool false,.bool false,.bool false,.bool false,.bool false,.bool false,.bool false,.bool false,.bool false,.bool false,.bool false,.bool false,.bool false,.bool false,.bool false,.bool false,.bool false,.bool false,.bool false,.bool false,.bool false,.bool false,.bool false,.bool false,.bool false,.bool false,.bool false,.bool false,.bool false,.bool false,.bool false,.bool false,.bool false,.bool false,.bool false,.bool false,.bool false,.bool false,.int .i64 0] ps = some cs):Ex Tryd.prog N ρ w (.build 56 parts.toArray) ty (.agg cs.toArray) w :=
  x_bld (places:=[(0,1),(1,1),(2,1),(3,256),(259,1)]) Tryd.underlying56 inf56 hps (by kernel_rfl) hf
theorem bl64 {N:Nat} {ρ:Nat → Value} {w:World} {ty:Nat} {parts:List (Nat × Operand)} {ps:List (Nat × Value)} {cs:List Value} (hps:Evp N ρ parts ps) (hf:fillL (([(0,1),(1,1),(2,1),(3,16),(19,1)]:List (Nat × Nat))[·]?) [.int .i64 0,.slice none 0 0,.slice none 0 0,.int .u16 0,.int .u16 0,.int .u16 0,.int .u16 0,.int .u16 0,.int .u16 0,.int .u16 0,.int .u16 0,.int .u16 0,.int .u16 0,.int .u16 0,.int .u16 0,.int .u16 0,.int .u16 0,.int .u16 0,.int .u16 0,.int .i64 0] ps = some cs):Ex Tryd.prog N ρ w (.build 64 parts.toArray) ty (.agg cs.toArray) w :=
  x_bld (places:=[(0,1),(1,1),(2,1),(3,16),(19,1)]) Tryd.underlying64 inf64 hps (by kernel_rfl) hf
theorem cb5:Cb Tryd.prog 5:=⟨Tryd.f5,Tryd.func5,by kernel_rfl,by kernel_rfl⟩
theorem cb7:Cb Tryd.prog 7:=⟨Tryd.f7,Tryd.func7,by kernel_rfl,by kernel_rfl⟩
theorem cb9:Cb Tryd.prog 9:=⟨Tryd.f9,Tryd.func9,by kernel_rfl,by kernel_rfl⟩
theorem cb11:Cb Tryd.prog 11:=⟨Tryd.f11,Tryd.func11,by kernel_rfl,by kernel_rfl⟩
theorem cb12:Cb Tryd.prog 12:=⟨Tryd.f12,Tryd.func12,by kernel_rfl,by kernel_rfl⟩
theorem cb13:Cb Tryd.prog 13:=⟨Tryd.f13,Tryd.func13,by kernel_rfl,by kernel_rfl⟩
theorem cb14:Cb Tryd.prog 14:=⟨Tryd.f14,Tryd.func14,by kernel_rfl,by kernel_rfl⟩
theorem cb15:Cb Tryd.prog 15:=⟨Tryd.f15,Tryd.func15,by kernel_rfl,by kernel_rfl⟩
theorem cb16:Cb Tryd.prog 16:=⟨Tryd.f16,Tryd.func16,by kernel_rfl,by kernel_rfl⟩
theorem cb17:Cb Tryd.prog 17:=⟨Tryd.f17,Tryd.func17,by kernel_rfl,by kernel_rfl⟩
theorem cb18:Cb Tryd.prog 18:=⟨Tryd.f18,Tryd.func18,by kernel_rfl,by kernel_rfl⟩
theorem cb19:Cb Tryd.prog 19:=⟨Tryd.f19,Tryd.func19,by kernel_rfl,by kernel_rfl⟩
theorem cb20:Cb Tryd.prog 20:=⟨Tryd.f20,Tryd.func20,by kernel_rfl,by kernel_rfl⟩
theorem cb21:Cb Tryd.prog 21:=⟨Tryd.f21,Tryd.func21,by kernel_rfl,by kernel_rfl⟩
theorem cb22:Cb Tryd.prog 22:=⟨Tryd.f22,Tryd.func22,by kernel_rfl,by kernel_rfl⟩
theorem cb23:Cb Tryd.prog 23:=⟨Tryd.f23,Tryd.func23,by kernel_rfl,by kernel_rfl⟩
theorem cb24:Cb Tryd.prog 24:=⟨Tryd.f24,Tryd.func24,by kernel_rfl,by kernel_rfl⟩
theorem cb25:Cb Tryd.prog 25:=⟨Tryd.f25,Tryd.func25,by kernel_rfl,by kernel_rfl⟩
theorem cb26:Cb Tryd.prog 26:=⟨Tryd.f26,Tryd.func26,by kernel_rfl,by kernel_rfl⟩
theorem cb27:Cb Tryd.prog 27:=⟨Tryd.f27,Tryd.func27,by kernel_rfl,by kernel_rfl⟩
theorem cb28:Cb Tryd.prog 28:=⟨Tryd.f28,Tryd.func28,by kernel_rfl,by kernel_rfl⟩
theorem cb29:Cb Tryd.prog 29:=⟨Tryd.f29,Tryd.func29,by kernel_rfl,by kernel_rfl⟩
theorem cb30:Cb Tryd.prog 30:=⟨Tryd.f30,Tryd.func30,by kernel_rfl,by kernel_rfl⟩
theorem cb31:Cb Tryd.prog 31:=⟨Tryd.f31,Tryd.func31,by kernel_rfl,by kernel_rfl⟩
theorem cb32:Cb Tryd.prog 32:=⟨Tryd.f32,Tryd.func32,by kernel_rfl,by kernel_rfl⟩
theorem cb33:Cb Tryd.prog 33:=⟨Tryd.f33,Tryd.func33,by kernel_rfl,by kernel_rfl⟩
theorem cb35:Cb Tryd.prog 35:=⟨Tryd.f35,Tryd.func35,by kernel_rfl,by kernel_rfl⟩
theorem cb36:Cb Tryd.prog 36:=⟨Tryd.f36,Tryd.func36,by kernel_rfl,by kernel_rfl⟩
theorem cb37:Cb Tryd.prog 37:=⟨Tryd.f37,Tryd.func37,by kernel_rfl,by kernel_rfl⟩
theorem cb38:Cb Tryd.prog 38:=⟨Tryd.f38,Tryd.func38,by kernel_rfl,by kernel_rfl⟩
theorem cb39:Cb Tryd.prog 39:=⟨Tryd.f39,Tryd.func39,by kernel_rfl,by kernel_rfl⟩
theorem cb40:Cb Tryd.prog 40:=⟨Tryd.f40,Tryd.func40,by kernel_rfl,by kernel_rfl⟩
theorem cb41:Cb Tryd.prog 41:=⟨Tryd.f41,Tryd.func41,by kernel_rfl,by kernel_rfl⟩
theorem cb42:Cb Tryd.prog 42:=⟨Tryd.f42,Tryd.func42,by kernel_rfl,by kernel_rfl⟩
theorem cb43:Cb Tryd.prog 43:=⟨Tryd.f43,Tryd.func43,by kernel_rfl,by kernel_rfl⟩
theorem cb44:Cb Tryd.prog 44:=⟨Tryd.f44,Tryd.func44,by kernel_rfl,by kernel_rfl⟩
theorem cb45:Cb Tryd.prog 45:=⟨Tryd.f45,Tryd.func45,by kernel_rfl,by kernel_rfl⟩
theorem cb46:Cb Tryd.prog 46:=⟨Tryd.f46,Tryd.func46,by kernel_rfl,by kernel_rfl⟩
theorem cb47:Cb Tryd.prog 47:=⟨Tryd.f47,Tryd.func47,by kernel_rfl,by kernel_rfl⟩
theorem cb48:Cb Tryd.prog 48:=⟨Tryd.f48,Tryd.func48,by kernel_rfl,by kernel_rfl⟩
theorem cb49:Cb Tryd.prog 49:=⟨Tryd.f49,Tryd.func49,by kernel_rfl,by kernel_rfl⟩
theorem cb50:Cb Tryd.prog 50:=⟨Tryd.f50,Tryd.func50,by kernel_rfl,by kernel_rfl⟩
theorem cb51:Cb Tryd.prog 51:=⟨Tryd.f51,Tryd.func51,by kernel_rfl,by kernel_rfl⟩
theorem cb52:Cb Tryd.prog 52:=⟨Tryd.f52,Tryd.func52,by kernel_rfl,by kernel_rfl⟩
theorem cb53:Cb Tryd.prog 53:=⟨Tryd.f53,Tryd.func53,by kernel_rfl,by kernel_rfl⟩
end Go.Proofs.YtojlmilkdijiaaaDoor

set_option linter.unusedVariables false
set_option linter.unusedSimpArgs false
namespace Go.FM
def has (s:Nat) (i:Int):Bool:=decide (0 ≤ i∧i < 16∧s / 2 ^ i.toNat % 2 = 1)
def pc:Nat → Nat → Nat
  | 0,_ => 0
  | f + 1,s => s % 2 + pc f (s / 2)
def cnt (s:Nat):Nat:=pc 16 s
def els:Nat → Nat → Nat → List Nat
  | 0,_,_ => []
  | f + 1,o,s => if s % 2 = 1 then o::els f (o + 1) (s / 2) else els f (o + 1) (s / 2)
def lst (s:Nat):List Nat:=els 16 0 s
def low:Nat → Nat → Nat
  | 0,_ => 0
  | f + 1,s => if s % 2 = 1 then 0 else low f (s / 2) + 1
def least (s:Nat):Int:=if s = 0 then -1 else low 16 s
def wth (s:Nat) (i:Int):Nat:=if 0 ≤ i∧i < 16 then s ||| 2 ^ i.toNat else s
def wto (s:Nat) (i:Int):Nat:=if 0 ≤ i∧i < 16 then s &&& (65535 - 2 ^ i.toNat) else s
theorem pc_le:∀ (f s:Nat),pc f s ≤ f
  | 0,s => by simp [pc]
  | f + 1,s => by simp only [pc]; have:=pc_le f (s / 2); omega
theorem and_mod2 (a b:Nat):(a &&& b) % 2 = a % 2 * (b % 2):=by
  have h1:=Nat.mod_two_eq_zero_or_one a
  have h2:=Nat.mod_two_eq_zero_or_one b
  have h3:=Nat.and_mod_two_pow (a:=a) (b:=b) (n:=1)
  simp only [Nat.pow_one] at h3
  rw [h3]
  rcases h1 with h1 | h1 <;> rcases h2 with h2 | h2 <;> simp [h1,h2]
theorem and_div2 (a b:Nat):(a &&& b) / 2 = a / 2 &&& b / 2:=by
  have:=Nat.and_div_two_pow (a:=a) (b:=b) (n:=1)
  simpa using this
theorem land_pred_even (t:Nat) (ht:t ≠ 0):(2 * t) &&& (2 * t - 1) = 2 * (t &&& (t - 1)):=by
  have h1:((2 * t) &&& (2 * t - 1)) % 2 = 0:=by rw [and_mod2]; simp
  have h2:((2 * t) &&& (2 * t - 1)) / 2 = t &&& (t - 1):=by
    rw [and_div2]
    congr 1 <;> omega
  omega
theorem land_pred_odd (t:Nat):(2 * t + 1) &&& (2 * t) = 2 * t:=by
  have h1:((2 * t + 1) &&& (2 * t)) % 2 = 0:=by rw [and_mod2]; simp
  have h2:((2 * t + 1) &&& (2 * t)) / 2 = t:=by
    rw [and_div2,show (2 * t + 1) / 2 = t by omega,show 2 * t / 2 = t by omega,Nat.and_self]
  omega
theorem els_pred:∀ (f o s:Nat),s ≠ 0 → s < 2 ^ f → els f o s = (o + low f s)::els f o (s &&& (s - 1))
  | 0,o,s,h,h2 => by simp at h2; omega
  | f + 1,o,s,h,h2 => by
    rcases Nat.mod_two_eq_zero_or_one s with hs | hs
    · obtain ⟨t,rfl⟩:∃ t,s = 2 * t:=⟨s / 2,by omega⟩
      have ht:t ≠ 0:=by omega
      rw [land_pred_even t ht]
      have e1:2 * t / 2 = t:=by omega
      have e2:2 * (t &&& (t - 1)) / 2 = t &&& (t - 1):=by omega
      have e3:2 * t % 2 ≠ 1:=by omega
      have e4:2 * (t &&& (t - 1)) % 2 ≠ 1:=by omega
      simp only [els,low,e1,e2,if_neg e3,if_neg e4]
      rw [els_pred f (o + 1) t ht (by rw [Nat.pow_succ] at h2; omega)]
      congr 1; omega
    · obtain ⟨t,rfl⟩:∃ t,s = 2 * t + 1:=⟨s / 2,by omega⟩
      rw [show 2 * t + 1 - 1 = 2 * t by omega,land_pred_odd]
      have e1:(2 * t + 1) / 2 = t:=by omega
      have e2:2 * t / 2 = t:=by omega
      have e3:(2 * t + 1) % 2 = 1:=by omega
      have e4:2 * t % 2 ≠ 1:=by omega
      simp only [els,low,e1,e2,if_pos e3,if_neg e4,Nat.add_zero]
theorem lst_pred (s:Nat) (h:s ≠ 0) (h2:s < 65536):lst s = low 16 s::lst (s &&& (s - 1)):=by
  have:=els_pred 16 0 s h (by simpa using h2)
  simpa [lst] using this
theorem els_zero:∀ (f o:Nat),els f o 0 = []
  | 0,_ => rfl
  | f + 1,o => by simp [els,els_zero f]
theorem els_length:∀ (f o s:Nat),(els f o s).length = pc f s
  | 0,_,_ => rfl
  | f + 1,o,s => by
    simp only [els,pc]
    have:=els_length f (o + 1) (s / 2)
    rcases Nat.mod_two_eq_zero_or_one s with hs | hs
    · rw [if_neg (by omega)]; omega
    · rw [if_pos hs,List.length_cons]; omega
theorem lst_length (s:Nat):(lst s).length = cnt s:=els_length 16 0 s
theorem low_lt:∀ (f s:Nat),s ≠ 0 → s < 2 ^ f → low f s < f
  | 0,s,h,h2 => by simp at h2; omega
  | f + 1,s,h,h2 => by
    simp only [low]
    split
    · omega
    · have:=low_lt f (s / 2) (by omega) (by rw [Nat.pow_succ] at h2; omega)
      omega
theorem els_mem:∀ (f o s i:Nat),i ∈ els f o s ↔ o ≤ i∧i < o + f∧s / 2 ^ (i - o) % 2 = 1
  | 0,o,s,i => by simp [els]; omega
  | f + 1,o,s,i => by
    have ih:=els_mem f (o + 1) (s / 2) i
    have key:o + 1 ≤ i → s / 2 / 2 ^ (i - (o + 1)) = s / 2 ^ (i - o):=fun h => by
      rw [Nat.div_div_eq_div_mul,show i - o = (i - (o + 1)) + 1 by omega,Nat.pow_succ,Nat.mul_comm]
    have key2:i = o → s / 2 ^ (i - o) = s:=fun h => by subst h; simp
    simp only [els]
    split
    · rename_i hs
      rw [List.mem_cons,ih]
      constructor
      · rintro (rfl | ⟨h1,h2,h3⟩)
        · exact ⟨by omega,by omega,by simpa using hs⟩
        · exact ⟨by omega,by omega,by rw [← key h1]; exact h3⟩
      · rintro ⟨h1,h2,h3⟩
        by_cases e:i = o
        · exact .inl e
        · exact .inr ⟨by omega,by omega,by rw [key (by omega)]; exact h3⟩
    · rename_i hs
      rw [ih]
      constructor
      · rintro ⟨h1,h2,h3⟩
        exact ⟨by omega,by omega,by rw [← key h1]; exact h3⟩
      · rintro ⟨h1,h2,h3⟩
        by_cases e:i = o
        · rw [key2 e] at h3; omega
        · exact ⟨by omega,by omega,by rw [key (by omega)]; exact h3⟩
end Go.FM

set_option linter.unusedVariables false
namespace Go.FM
theorem bit_ltN {j:Nat} (h:j < 16):2 ^ j < 65536:=by
  have:2 ^ j ≤ 2 ^ 15:=Nat.pow_le_pow_right (by omega) (by omega)
  have e:(2:Nat) ^ 15 = 32768:=by decide
  omega
theorem bit_lt {i:Int} (h:i < 16):2 ^ i.toNat < 65536:=bit_ltN (by omega)
theorem wth_lt {s:Nat} (h:s < 65536) (i:Int):wth s i < 65536:=by
  unfold wth; split
  · exact Nat.or_lt_two_pow (n:=16) h (bit_lt (by omega))
  · exact h
theorem wto_lt {s:Nat} (h:s < 65536) (i:Int):wto s i < 65536:=by
  unfold wto; split
  · exact Nat.lt_of_le_of_lt Nat.and_le_left h
  · exact h
theorem has_yes {s:Nat} {i:Int} (h0:0 ≤ i) (h1:i < 16):decide ((((s / 2 ^ i.toNat) &&& 1:Nat):Int) = 1) = has s i:=by
  rw [Nat.and_one_is_mod]
  simp only [has,decide_eq_decide]
  omega
theorem has_no {s:Nat} {i:Int} (h:¬ (0 ≤ i) ∨ ¬ (i < 16)):false = has s i:=by
  simp only [has]
  exact (decide_eq_false (by omega)).symm
theorem has_spec' {s:Nat} {i:Int} {b:Bool} (h:has s i = b) (h0:0 ≤ i) (h1:i < 16):s / 2 ^ i.toNat % 2 = if b then 1 else 0:=by
  unfold has at h
  cases b with
  | true => have:=of_decide_eq_true h; simp [this.2.2]
  | false => have:=of_decide_eq_false h; simp; omega
theorem has_in {s:Nat} {i:Int} (h:has s i = true):0 ≤ i∧i < 16:=by
  have:=of_decide_eq_true h
  exact ⟨this.1,this.2.1⟩
theorem has_le {s:Nat} {i:Int} (h:has s i = true):2 ^ i.toNat ≤ s:=by
  have hi:=has_in h
  have:=has_spec' h hi.1 hi.2
  rcases Nat.lt_or_ge s (2 ^ i.toNat) with h | h
  · rw [Nat.div_eq_of_lt h] at this; simp at this
  · exact h
theorem land_compl:∀ (f t:Nat),t < 2 ^ f → t &&& (2 ^ f - 1 - t) = 0
  | 0,t,h => by
    have:t = 0:=by simpa using h
    subst this; rfl
  | f + 1,t,h => by
    have e3:2 ^ (f + 1) = 2 * 2 ^ f:=by rw [Nat.pow_succ]; omega
    have h1:=and_mod2 t (2 ^ (f + 1) - 1 - t)
    have h2:=and_div2 t (2 ^ (f + 1) - 1 - t)
    have ih:=land_compl f (t / 2) (by omega)
    have e1:(2 ^ (f + 1) - 1 - t) / 2 = 2 ^ f - 1 - t / 2:=by omega
    rw [e1,ih] at h2
    rcases Nat.mod_two_eq_zero_or_one t with hm | hm
    · rw [hm] at h1; omega
    · have e2:(2 ^ (f + 1) - 1 - t) % 2 = 0:=by omega
      rw [e2] at h1; omega
theorem land_neg:∀ (f s:Nat),s ≠ 0 → s < 2 ^ f → s &&& (2 ^ f - s) = 2 ^ low f s
  | 0,s,h,h2 => by simp at h2; omega
  | f + 1,s,h,h2 => by
    have e3:2 ^ (f + 1) = 2 * 2 ^ f:=by rw [Nat.pow_succ]; omega
    have k1:=and_mod2 s (2 ^ (f + 1) - s)
    have k2:=and_div2 s (2 ^ (f + 1) - s)
    simp only [low]
    rcases Nat.mod_two_eq_zero_or_one s with hs | hs
    · rw [if_neg (by omega),show 2 ^ (low f (s / 2) + 1) = 2 * 2 ^ low f (s / 2) by rw [Nat.pow_succ]; omega]
      have ih:=land_neg f (s / 2) (by omega) (by omega)
      have e1:(2 ^ (f + 1) - s) / 2 = 2 ^ f - s / 2:=by omega
      rw [e1,ih] at k2
      rw [hs] at k1
      omega
    · rw [if_pos hs,Nat.pow_zero]
      have e1:(2 ^ (f + 1) - s) / 2 = 2 ^ f - 1 - s / 2:=by omega
      have e2:(2 ^ (f + 1) - s) % 2 = 1:=by omega
      rw [e1,land_compl f (s / 2) (by omega)] at k2
      rw [hs,e2] at k1
      omega
theorem all_sub {k:Nat} (h0:1 ≤ k) (h1:k ≤ 16):(((1 * 2 ^ k % 65536:Nat):Int) - 1) % 65536 = ((2 ^ k - 1:Nat):Int)∧2 ^ k - 1 < 65536:=by
  have hp:0 < 2 ^ k:=Nat.two_pow_pos k
  by_cases hk:k = 16
  · subst hk; decide
  · have:=bit_ltN (j:=k) (by omega)
    rw [Nat.one_mul,Nat.mod_eq_of_lt this]
    omega
theorem lst_lt {s i z:Nat} (h:(lst s)[i]? = some z):z < 16:=by
  have:=List.mem_of_getElem? h
  have:=(els_mem 16 0 s z).1 this
  omega
theorem has_lst {s z:Nat}:z ∈ lst s ↔ has s (z:Int) = true:=by
  rw [lst,els_mem]
  simp only [has,decide_eq_true_eq]
  simp
  omega
theorem eq_of_bits:∀ (f a b:Nat),a < 2 ^ f → b < 2 ^ f → (∀ j,j < f → (a / 2 ^ j % 2 = 1 ↔ b / 2 ^ j % 2 = 1)) → a = b
  | 0,a,b,ha,hb,_ => by simp at ha hb; omega
  | f + 1,a,b,ha,hb,h => by
    have h0:=h 0 (by omega)
    simp only [Nat.pow_zero,Nat.div_one] at h0
    have ih:=eq_of_bits f (a / 2) (b / 2) (by rw [Nat.pow_succ] at ha; omega) (by rw [Nat.pow_succ] at hb; omega) (fun j hj => by
      have:=h (j + 1) (by omega)
      rw [Nat.pow_succ,Nat.mul_comm,← Nat.div_div_eq_div_mul,← Nat.div_div_eq_div_mul] at this
      exact this)
    omega
theorem testBit_iff (s j:Nat):s.testBit j = true ↔ s / 2 ^ j % 2 = 1:=by
  rw [Nat.testBit_eq_decide_div_mod_eq]; simp
theorem wth_bit {a z j:Nat} (hz:z < 16):(wth a (z:Int)) / 2 ^ j % 2 = 1 ↔ a / 2 ^ j % 2 = 1 ∨ j = z:=by
  unfold wth
  rw [if_pos (by omega),← testBit_iff,← testBit_iff]
  simp only [Int.toNat_natCast,Nat.testBit_or,Nat.testBit_two_pow,Bool.or_eq_true,decide_eq_true_eq]
  rw [eq_comm (a:=z) (b:=j)]
theorem wto_bit {a z j:Nat} (hz:z < 16) (hj:j < 16) (ha:a < 65536):(wto a (z:Int)) / 2 ^ j % 2 = 1 ↔ a / 2 ^ j % 2 = 1∧j ≠ z:=by
  unfold wto
  rw [if_pos (by omega),← testBit_iff,← testBit_iff]
  simp only [Int.toNat_natCast,Nat.testBit_and,Bool.and_eq_true]
  have e:(65535 - 2 ^ z).testBit j = decide (j ≠ z):=by
    have:(2 ^ 16 - (2 ^ z + 1)).testBit j = (decide (j < 16) && !(2 ^ z).testBit j):=Nat.testBit_two_pow_sub_succ (bit_ltN hz) j
    rw [show 65535 - 2 ^ z = 2 ^ 16 - (2 ^ z + 1) by omega,this,Nat.testBit_two_pow]
    simp [hj]
    constructor <;> (intro h; omega)
  rw [e]; simp
structure Built (s n i a b:Nat):Prop where
  la:a < 65536
  lb:b < 65536
  a:∀ j,j < 16 → (a / 2 ^ j % 2 = 1 ↔ ∃ q,q < i∧(lst s)[(q + n) % (lst s).length]? = some j)
  b:∀ j,j < 16 → (b / 2 ^ j % 2 = 1 ↔ s / 2 ^ j % 2 = 1∧¬ ∃ q,q < i∧(lst s)[(q + n) % (lst s).length]? = some j)
theorem Built.next {s n i a b z:Nat} (h:Built s n i a b) (hi:i < (lst s).length) (hz:(lst s)[(i + n) % (lst s).length]? = some z) (b_s:s < 65536) :
    Built s n (i + 1) (wth (wth a (z:Int)) (z:Int)) (wto (wto b (z:Int)) (z:Int)):=by
  have hz16:=lst_lt hz
  have key:∀ j,(∃ q,q < i + 1∧(lst s)[(q + n) % (lst s).length]? = some j) ↔ (∃ q,q < i∧(lst s)[(q + n) % (lst s).length]? = some j) ∨ j = z:=by
    intro j
    constructor
    · rintro ⟨q,hq,he⟩
      by_cases e:q = i
      · subst e; rw [hz] at he; injection he with he; exact .inr he.symm
      · exact .inl ⟨q,by omega,he⟩
    · rintro (⟨q,hq,he⟩ | rfl)
      · exact ⟨q,by omega,he⟩
      · exact ⟨i,by omega,hz⟩
  refine ⟨wth_lt (wth_lt h.la _) _,wto_lt (wto_lt h.lb _) _,fun j hj => ?_,fun j hj => ?_⟩
  · rw [wth_bit hz16,wth_bit hz16,h.a j hj,key]
    constructor
    · rintro ((h | h) | h)
      · exact .inl h
      · exact .inr h
      · exact .inr h
    · rintro (h | h)
      · exact .inl (.inl h)
      · exact .inr h
  · rw [wto_bit hz16 hj (wto_lt h.lb _),wto_bit hz16 hj h.lb,h.b j hj,key]
    constructor
    · rintro ⟨⟨⟨h1,h2⟩,h3⟩,_⟩
      exact ⟨h1,fun h => h.elim h2 h3⟩
    · rintro ⟨h1,h2⟩
      exact ⟨⟨⟨h1,fun h => h2 (.inl h)⟩,fun h => h2 (.inr h)⟩,fun h => h2 (.inr h)⟩
theorem Built.done {s n i a b:Nat} (h:Built s n i a b) (b_s:s < 65536) (hi:i = (lst s).length):a = s∧b = 0:=by
  have all:∀ j,j < 16 → ((∃ q,q < i∧(lst s)[(q + n) % (lst s).length]? = some j) ↔ s / 2 ^ j % 2 = 1):=by
    intro j hj
    have hm:j ∈ lst s ↔ s / 2 ^ j % 2 = 1:=by rw [lst,els_mem]; simp; omega
    rw [← hm]
    constructor
    · rintro ⟨q,_,he⟩; exact List.mem_of_getElem? he
    · intro hmem
      obtain ⟨p,hp⟩:=List.getElem?_of_mem hmem
      have hpl:=(List.getElem?_eq_some_iff.1 hp).1
      refine ⟨(p + (lst s).length - n % (lst s).length) % (lst s).length,by rw [hi]; exact Nat.mod_lt _ (by omega),?_⟩
      have hnl:=Nat.mod_lt n (show 0 < (lst s).length by omega)
      have:((p + (lst s).length - n % (lst s).length) % (lst s).length + n) % (lst s).length = p:=by
        rw [Nat.mod_add_mod]
        have e:p + (lst s).length - n % (lst s).length + n = p + (lst s).length * (1 + n / (lst s).length):=by
          have:=Nat.div_add_mod n (lst s).length
          rw [Nat.mul_add,Nat.mul_one]
          omega
        rw [e,Nat.add_mul_mod_self_left,Nat.mod_eq_of_lt hpl]
      rw [this]; exact hp
  refine ⟨eq_of_bits 16 a s (by simpa using h.la) (by simpa using b_s) fun j hj => by rw [h.a j hj,all j hj],eq_of_bits 16 b 0 (by simpa using h.lb) (by decide) fun j hj => ?_⟩
  rw [h.b j hj,all j hj]
  simp
end Go.FM

set_option linter.unusedVariables false
namespace Go.FM
open Go
theorem St.p1 {H:Hp} {w:World} {r0 r1:Res} {L:List Res} (h:St H w (r0::r1::L)):St H w (r1::r0::L):=h.pick 1 rfl rfl
theorem St.p2 {H:Hp} {w:World} {r0 r1 r2:Res} {L:List Res} (h:St H w (r0::r1::r2::L)):St H w (r2::r0::r1::L):=h.pick 2 rfl rfl
theorem St.p3 {H:Hp} {w:World} {r0 r1 r2 r3:Res} {L:List Res} (h:St H w (r0::r1::r2::r3::L)):St H w (r3::r0::r1::r2::L):=h.pick 3 rfl rfl
theorem St.p4 {H:Hp} {w:World} {r0 r1 r2 r3 r4:Res} {L:List Res} (h:St H w (r0::r1::r2::r3::r4::L)):St H w (r4::r0::r1::r2::r3::L):=h.pick 4 rfl rfl
theorem St.p5 {H:Hp} {w:World} {r0 r1 r2 r3 r4 r5:Res} {L:List Res} (h:St H w (r0::r1::r2::r3::r4::r5::L)):St H w (r5::r0::r1::r2::r3::r4::L):=h.pick 5 rfl rfl
end Go.FM

set_option linter.unusedVariables false
set_option linter.unusedSimpArgs false
namespace Go.FM
open Go
section
variable {P:Program} {ops:Array Oper} {Q:Exit → Act → World → Prop} {K:Act → World → Prop} {a:Act} {w:World} {N:Nat} {ρ:Nat → Value} {C:World → Prop} {Qa Ka:Act → Prop} {o:Oper}
theorem upon_join {next next':Act → World → Prop} (hn:∀ a w,next a w → next' a w) (h:o.wp P a w next (Qn K)):o.wp P a w next' Q:=by
  unfold Oper.wp at h ⊢
  generalize (execOp a.eval o).run P w = r at h ⊢
  cases r with
  | ok n w' =>
    cases n <;> simp only [Oper.upon] at h ⊢
    case value v => exact hn _ _ h
    case skip => exact hn _ _ h
    case defer d => exact hn _ _ h
    case enter f args =>
      refine Calls.mono h fun e w'' he => ?_
      cases e with
      | returned v => exact hn _ _ he
      | panicked c => exact absurd he.1 (by intro e; cases e)
      | outgrown => exact absurd he not_letsOut
    case row row args => exact Rows.mono h fun v w'' he => hn _ _ he
  | halt x w' =>
    cases x <;> simp only [Oper.upon] at h ⊢
    case panic v => exact absurd h.1 (by intro e; cases e)
theorem wpList_app:∀ (l1 l2:List Oper) (a:Act) (w:World),wpList P ops (Qn (wpList P ops Q l2)) l1 a w → wpList P ops Q (l1 ++ l2) a w
  | [],l2,a,w,h => h.2
  | o::l1,l2,a,w,h => by
    simp only [wpList,List.cons_append] at h ⊢
    split
    · rename_i hw
      rw [if_pos hw] at h
      left
      rcases h with h | ⟨_,h⟩
      · exact upon_join (fun a w h => wpList_app l1 l2 a w h) h
      · exact absurd h not_letsOut
    · rename_i hw
      rw [if_neg hw] at h
      exact wpList_app l1 l2 _ w h
theorem wpList_mono {K K':Act → World → Prop} (hk:∀ a w,K a w → K' a w):∀ (l:List Oper) (a:Act) (w:World),wpList P ops (Qn K) l a w → wpList P ops (Qn K') l a w
  | [],a,w,h => ⟨h.1,hk a w h.2⟩
  | o::l,a,w,h => by
    simp only [wpList] at h ⊢
    split
    · rename_i hw
      rw [if_pos hw] at h
      left
      rcases h with h | ⟨_,h⟩
      · exact upon_join (fun a w h => wpList_mono hk l a w h) h
      · exact absurd h not_letsOut
    · rename_i hw
      rw [if_neg hw] at h
      exact wpList_mono hk l _ w h
theorem jw {l:List Oper} (k:Nat) (S:(Nat → Value) → World → Prop) (h:wpList P ops (Qn fun a' w' => ∃ ρ',a' = en N ρ'∧S ρ' w') (l.take k) (en N ρ) w) (c:∀ ρ' w',S ρ' w' → wpList P ops Q (l.drop k) (en N ρ') w'):wpList P ops Q l (en N ρ) w:=by
  have h2:=wpList_app (Q:=Q) (l.take k) (l.drop k) (en N ρ) w (wpList_mono (fun a' w' h => by obtain ⟨ρ',rfl,hS⟩:=h; exact c ρ' w' hS) _ _ _ h)
  rwa [List.take_append_drop] at h2
theorem jw_end {S:(Nat → Value) → World → Prop} (h:S ρ w):wpList P ops (Qn fun a' w' => ∃ ρ',a' = en N ρ'∧S ρ' w') [] (en N ρ) w:=⟨rfl,ρ,rfl,h⟩
end
section
variable {a b:Bool} {p q:Prop}
theorem jand_t (h:a = true):b = (a && b):=by rw [h]; rfl
theorem jand_f (h:a = false):false = (a && b):=by rw [h]; rfl
theorem J_and (h:a = true ↔ p) (k:b = true ↔ q):(a && b) = true ↔ (p∧q):=by rw [Bool.and_eq_true,h,k]
theorem J_no (h:a = true ↔ p) (k:a = false):¬ p:=fun hp => by rw [h.2 hp] at k; cases k
end
end Go.FM

set_option linter.unusedVariables false
set_option linter.unusedSimpArgs false
namespace Go.Proofs.YtojlmilkdijiaaaDoor
open Go Go.FM Go.Proofs
attribute [local irreducible] wpList wpQuiet wpS Code.wp Calls
def tab:List Nat:=[0,1,28,2,29,14,24,3,30,22,20,15,25,17,4,8,31,27,13,23,21,19,16,7,26,12,18,6,11,5,10,9]
def Tab (H:Hp):Prop:=∃ cs E fr,H.blk 0 = some (.cells cs E fr)∧∀ i,i < 32 → cs[i]? = some (.int .u8 ((tab.getD i 0:Nat):Int))
theorem Tab.mono {H H':Hp} (h:Tab H) (hl:H.le H'):Tab H':=let ⟨cs,E,fr,h1,h2⟩:=h; ⟨cs,E,fr,hl.blk _ _ h1,h2⟩
theorem Tab.cell {H:Hp} {w:World} {L:List Res} (h:Tab H) (hs:St H w L) (i:Nat) (hi:i < 32):w.cell? ⟨0,i,none⟩ = some (.int .u8 ((tab.getD i 0:Nat):Int)):=let ⟨cs,E,fr,h1,h2⟩:=h; cell_at (hs.fz _ _ h1) (h2 i hi)
theorem tab_pow:∀ j,j < 16 → 2 ^ j * 125613361 % 4294967296 / 2 ^ 27 < 32∧tab.getD (2 ^ j * 125613361 % 4294967296 / 2 ^ 27) 0 = j:=by decide +kernel
theorem tz_tab (s:Nat) (b_s:s < 65536) (h0:s ≠ 0):(s &&& ((0 - (s:Int)) % 65536).toNat) * 125613361 % 4294967296 / 2 ^ 27 < 32∧tab.getD ((s &&& ((0 - (s:Int)) % 65536).toNat) * 125613361 % 4294967296 / 2 ^ 27) 0 = low 16 s:=by
  have e:((0 - (s:Int)) % 65536).toNat = 2 ^ 16 - s:=by omega
  rw [e,land_neg 16 s h0 b_s]
  exact tab_pow _ (low_lt 16 s h0 b_s)
theorem tz_cell {H:Hp} {w:World} {L:List Res} (h:Tab H) (hs:St H w L) {e m:Nat} (he:e < 32) (hm:tab.getD e 0 = m):w.cell? ⟨0,0 + ((e:Nat):Int).toNat * 1,none⟩ = some (.int .u8 ((m:Nat):Int)):=by
  subst hm
  have:=h.cell hs e he
  rwa [show 0 + ((e:Nat):Int).toNat * 1 = e by omega]
set_option maxHeartbeats 8000000 in
theorem tz16_spec {H:Hp} {w:World} {L:List Res} (hs:St H w L) (htab:Tab H) (s:Nat) (b_s:s < 65536) (h0:s ≠ 0):Calls Tryd.prog 53 #[.int .u16 ((s:Nat):Int)] w (fun e w' => e = .returned (.int .i64 ((low 16 s:Nat):Int))∧St H w' L):=by
 refine enter (args:=[.int .u16 ((s:Nat):Int)]) (N:=15) Tryd.func53 rfl rfl rfl ?_
 refine c_seq ?_
 refine c_region ?_
 refine st (v:=.int .i64 0) (x_assign .const) ?_
 refine c_nil ?_
 refine n_then ?_
 refine c_seq ?_
 refine c_seq ?_
 refine c_region ?_
 refine st (v:=.int .u16 ((s:Nat):Int)) (x_move (.tmp rfl rfl)) ?_
 refine st (v:=.bool (decide ((((s:Nat):Int):Int) = 0))) (x_eql (k:=.u16) (a:=((s:Nat):Int)) (b:=0) (.tmp rfl rfl) .const) ?_
 refine c_nil ?_
 refine n_then ?_
 rcases Bool.eq_false_or_eq_true (decide ((((s:Nat):Int):Int) = 0)) with hc1 | hc1
 have hp1:(((s:Nat):Int):Int) = 0:=of_decide_eq_true hc1
 refine c_cond_t (t:=true) (.tmp rfl (congrArg Value.bool hc1)) rfl ?_
 refine c_seq ?_
 refine c_region ?_
 refine st (v:=.int .i64 16) (x_assign .const) ?_
 refine c_nil ?_
 refine n_then ?_
 refine c_ret ?_
 refine r_then ?_
 refine leave_ret (res_one (v:=.int .i64 16) rfl (.mk rfl rfl)) ?_
 exact absurd hp1 (by omega)
 have hp1:¬ ((((s:Nat):Int):Int) = 0):=of_decide_eq_false hc1
 refine c_cond_f (t:=false) (.tmp rfl (congrArg Value.bool hc1)) rfl ?_
 refine c_skip ?_
 refine n_then ?_
 refine c_seq ?_
 refine c_region ?_
 refine st (v:=.int .u16 ((s:Nat):Int)) (x_move (.tmp rfl rfl)) ?_
 refine st (v:=.int .u16 ((s:Nat):Int)) (x_move (.tmp rfl rfl)) ?_
 refine st (v:=.int .u16 ((((0 - ((s:Nat):Int)) % 65536).toNat:Nat):Int)) (x_neg (k:=.u16) (a:=((s:Nat):Int)) (.tmp rfl rfl) (wrapU _ rfl _)) ?_
 have hb2:(s &&& (((0 - ((s:Nat):Int)) % 65536).toNat)) < 65536:=Nat.lt_of_le_of_lt Nat.and_le_left b_s
 refine st (v:=.int .u16 (((s &&& (((0 - ((s:Nat):Int)) % 65536).toNat)):Nat):Int)) (x_and (k:=.u16) (m:=s) (n:=(((0 - ((s:Nat):Int)) % 65536).toNat)) rfl (.tmp rfl rfl) (.tmp rfl rfl) (show _ < 2 ^ 16 from b_s) (show _ < 2 ^ 16 from (by omega))) ?_
 have hb3:(s &&& (((0 - ((s:Nat):Int)) % 65536).toNat)) < 4294967296:=Nat.lt_of_lt_of_le hb2 (by decide)
 refine st (v:=.int .u32 (((s &&& (((0 - ((s:Nat):Int)) % 65536).toNat)):Nat):Int)) (x_conv (k:=.u16) (a:=(((s &&& (((0 - ((s:Nat):Int)) % 65536).toNat)):Nat):Int)) Tryd.underlying29 Tryd.underlying84 (.tmp rfl rfl) (wU rfl rfl hb3)) ?_
 refine st (v:=.int .u32 (((((s &&& (((0 - ((s:Nat):Int)) % 65536).toNat)) * 125613361) % 4294967296):Nat):Int)) (x_mul (k:=.u32) (a:=(((s &&& (((0 - ((s:Nat):Int)) % 65536).toNat)):Nat):Int)) (b:=125613361) (.tmp rfl rfl) .const (wMulN (m:=(s &&& (((0 - ((s:Nat):Int)) % 65536).toNat))) (n:=125613361) _ rfl rfl rfl)) ?_
 have hb4:((((s &&& (((0 - ((s:Nat):Int)) % 65536).toNat)) * 125613361) % 4294967296) / 2 ^ 27) < 4294967296:=Nat.lt_of_le_of_lt (Nat.div_le_self _ _) (Nat.mod_lt _ (by decide))
 refine st (v:=.int .u32 ((((((s &&& (((0 - ((s:Nat):Int)) % 65536).toNat)) * 125613361) % 4294967296) / 2 ^ 27):Nat):Int)) (x_shr (k:=.u32) (m:=(((s &&& (((0 - ((s:Nat):Int)) % 65536).toNat)) * 125613361) % 4294967296)) (b:=27) rfl (.tmp rfl rfl) .const (by omega) (show _ < 2 ^ 32 from (Nat.mod_lt _ (by decide)))) ?_
 have htl:=tz_tab s b_s h0
 have hix:=htl.1
 refine st (v:=.pointer (some ⟨0,0 + ((((((s &&& (((0 - ((s:Nat):Int)) % 65536).toNat)) * 125613361) % 4294967296) / 2 ^ 27):Nat):Int).toNat * 1,none⟩)) (ix83 .global (i:=((((((s &&& (((0 - ((s:Nat):Int)) % 65536).toNat)) * 125613361) % 4294967296) / 2 ^ 27):Nat):Int)) (.tmp rfl rfl) (by omega) (by omega)) ?_
 have hlo:=low_lt 16 s h0 b_s
 refine st (v:=.int .u8 (((low 16 s):Nat):Int)) (ld5 (.tmp rfl rfl) (tz_cell htab hs hix htl.2)) ?_
 refine st (v:=.int .i64 (((low 16 s):Nat):Int)) (x_conv (k:=.u8) (a:=(((low 16 s):Nat):Int)) Tryd.underlying5 Tryd.underlying3 (.tmp rfl rfl) (w64 (by omega) (by omega))) ?_
 refine st (v:=.int .i64 (((low 16 s):Nat):Int)) (x_assign (.tmp rfl rfl)) ?_
 refine c_nil ?_
 refine n_then ?_
 refine c_ret ?_
 refine leave_ret (res_one (v:=.int .i64 (((low 16 s):Nat):Int)) rfl (.mk rfl rfl)) ?_
 exact ⟨rfl,hs⟩
set_option maxHeartbeats 8000000 in
theorem least_spec {H:Hp} {w:World} {L:List Res} (hs:St H w L) (htab:Tab H) (s:Nat) (b_s:s < 65536):Calls Tryd.prog 48 #[.int .u16 ((s:Nat):Int)] w (fun e w' => e = .returned (.int .i64 (least s))∧St H w' L):=by
 refine enter (args:=[.int .u16 ((s:Nat):Int)]) (N:=7) Tryd.func48 rfl rfl rfl ?_
 refine c_seq ?_
 refine c_region ?_
 refine st (v:=.int .i64 0) (x_assign .const) ?_
 refine c_nil ?_
 refine n_then ?_
 refine c_seq ?_
 refine c_seq ?_
 refine c_region ?_
 refine st (v:=.int .u16 ((s:Nat):Int)) (x_move (.tmp rfl rfl)) ?_
 refine st (v:=.bool (decide ((((s:Nat):Int):Int) = 0))) (x_eql (k:=.u16) (a:=((s:Nat):Int)) (b:=0) (.tmp rfl rfl) .const) ?_
 refine c_nil ?_
 refine n_then ?_
 rcases Bool.eq_false_or_eq_true (decide ((((s:Nat):Int):Int) = 0)) with hc1 | hc1
 have hp1:(((s:Nat):Int):Int) = 0:=of_decide_eq_true hc1
 refine c_cond_t (t:=true) (.tmp rfl (congrArg Value.bool hc1)) rfl ?_
 refine c_seq ?_
 refine c_region ?_
 refine st (v:=.int .i64 (-1)) (x_assign .const) ?_
 refine c_nil ?_
 refine n_then ?_
 refine c_ret ?_
 refine r_then ?_
 refine leave_ret (res_one (v:=.int .i64 (-1)) rfl (.mk rfl rfl)) ?_
 exact ⟨by simp only [least]; first | rw [if_pos (by omega)] | rw [if_neg (by omega)],hs⟩
 have hp1:¬ ((((s:Nat):Int):Int) = 0):=of_decide_eq_false hc1
 refine c_cond_f (t:=false) (.tmp rfl (congrArg Value.bool hc1)) rfl ?_
 refine c_skip ?_
 refine n_then ?_
 refine c_seq ?_
 refine c_region ?_
 refine st (v:=.int .u16 ((s:Nat):Int)) (x_move (.tmp rfl rfl)) ?_
 refine st_c cb53 .func (evs1 (.tmp rfl rfl)) (tz16_spec hs htab s b_s (by omega)) ?_
 rintro e w2 ⟨rfl,hs3⟩
 refine ⟨_,rfl,?_⟩
 refine st (v:=.int .i64 ((low 16 s:Nat):Int)) (x_assign (.tmp rfl rfl)) ?_
 refine c_nil ?_
 refine n_then ?_
 refine c_ret ?_
 refine leave_ret (res_one (v:=.int .i64 ((low 16 s:Nat):Int)) rfl (.mk rfl rfl)) ?_
 exact ⟨by simp only [least]; first | rw [if_pos (by omega)] | rw [if_neg (by omega)],hs3⟩
end Go.Proofs.YtojlmilkdijiaaaDoor

set_option linter.unusedVariables false
set_option linter.unusedSimpArgs false
namespace Go.Proofs.YtojlmilkdijiaaaDoor
open Go Go.FM Go.Proofs Go.ChangeShapes Go.WideShapes Go.ChangeAt Go.RowKit
theorem own:ownKnob Tryd.prog.godebug = none:=by kernel_rfl
theorem laidOut:laidOutB Tryd.prog = true:=by kernel_rfl
theorem of_laid {W:World} (h:laidMetH Tryd.prog [("math/bits.deBruijn32tab",Rows.laid_math_bits_deBruijn32tab)] W):Tab (Hp.of W) :=
  laid_bytes tab (by kernel_rfl) (by kernel_rfl) Tryd.underlying83 Tryd.underlying5 (by kernel_rfl) (by rfl) h
theorem door_met (os:Os) (args:Array Value):laidMetH Tryd.prog [("math/bits.deBruijn32tab",Rows.laid_math_bits_deBruijn32tab)] ((World.doorLaid Tryd.prog 400 os).forCall (fun _ _ => 0) ⟨#[],args,[]⟩).memory :=
  laidMetH_of_parts3 (fuel:=8) (laidMet_of_run' 8 (by kernel_rfl) (by kernel_rfl)) (by kernel_rfl) (by kernel_rfl)
theorem opn22:Opn Tryd.prog 22 kBs:=opn_bytes Tryd.underlying22 Tryd.underlying5 (by kernel_rfl) (by kernel_rfl)
theorem opn5:Opn Tryd.prog 5 (kU .u8 256 1 (by decide)):=opn_nat Tryd.underlying5 rfl rfl
theorem opn3:Opn Tryd.prog 3 kI:=opn_i64 Tryd.underlying3
theorem opn58:Opn Tryd.prog 58 kAct:=fun {Hh enc W fuel cs x} h hw => by
  obtain ⟨hl,hp⟩:=opn_parts Tryd.underlying58 h hw
  rw [show Tryd.prog.cellsOf 58 = 4 from by kernel_rfl] at hl
  match cs,hl with
  | [v0,v1,v2,v3],_ =>
    obtain ⟨a0,r0⟩:=hp 0 _ rfl opn5
    have r0:(kU .u8 256 1 (by decide)).rep _ a0 (([v0,v1,v2,v3].drop 0).take (Tryd.prog.cellsOf 5)):=r0
    rw [show Tryd.prog.cellsOf 5 = 1 from by kernel_rfl] at r0
    have r0:(kU .u8 256 1 (by decide)).rep _ a0 [v0]:=r0
    obtain ⟨a1,r1⟩:=hp 1 _ rfl opn3
    have r1:kI.rep _ a1 (([v0,v1,v2,v3].drop 1).take (Tryd.prog.cellsOf 3)):=r1
    rw [show Tryd.prog.cellsOf 3 = 1 from by kernel_rfl] at r1
    have r1:kI.rep _ a1 [v1]:=r1
    obtain ⟨a2,r2⟩:=hp 2 _ rfl opn3
    have r2:kI.rep _ a2 (([v0,v1,v2,v3].drop 2).take (Tryd.prog.cellsOf 3)):=r2
    rw [show Tryd.prog.cellsOf 3 = 1 from by kernel_rfl] at r2
    have r2:kI.rep _ a2 [v2]:=r2
    obtain ⟨a3,r3⟩:=hp 3 _ rfl opn22
    have r3:kBs.rep _ a3 (([v0,v1,v2,v3].drop 3).take (Tryd.prog.cellsOf 22)):=r3
    rw [show Tryd.prog.cellsOf 22 = 1 from by kernel_rfl] at r3
    have r3:kBs.rep _ a3 [v3]:=r3
    obtain ⟨e0,b_1⟩:=r0
    try simp only [List.cons.injEq,and_true] at e0
    first | subst e0 | cases e0
    obtain ⟨e1,⟨b_101,b_102⟩⟩:=r1
    try simp only [List.cons.injEq,and_true] at e1
    first | subst e1 | cases e1
    obtain ⟨e2,⟨b_201,b_202⟩⟩:=r2
    try simp only [List.cons.injEq,and_true] at e2
    first | subst e2 | cases e2
    obtain ⟨A_301,n_302,c_303,e3,hy_304⟩:=r3
    try simp only [List.cons.injEq,and_true] at e3
    first | subst e3 | cases e3
    exact ⟨GAct.mk a0 a1 a2 a3,A_301,n_302,c_303,rfl,b_1,⟨b_101,b_102⟩,⟨b_201,b_202⟩,hy_304⟩
theorem opn49:Opn Tryd.prog 49 (kSl kAct):=opn_sl Tryd.underlying49 (by kernel_rfl) (by kernel_rfl) opn58
end Go.Proofs.YtojlmilkdijiaaaDoor

set_option linter.unusedVariables false
set_option linter.unusedSimpArgs false
namespace Go.FM
open Go
section
variable {P:Program} {Q:Exit → Act → World → Prop} {N:Nat} {ρ:Nat → Value} {H:Hp} {w w':World} {L:List Res} {t ty e e' size bytes n m c g cap o k:Nat} {v:Value} {xs news:List Value} {x y:Operand} {z:Value} {ops:Array Oper} {rest:List Oper} {pos:String} {aft:Array Edge}
theorem St.putRow (h:St H w (row e size v n xs::L)) (hv:v = .slice (some ⟨g,0,none⟩) n cap) (hl:o + news.length ≤ xs.length) (h1:∀ u ∈ news,u.oneCell' = true) :
    ∃ w',(storeCells ⟨g,o,none⟩ news).run P w = .ok () w'∧St H w' (row e size v n (splice xs o news)::L):=by
  obtain ⟨cur,hg,ht,hcs,hnc,hcm⟩:=h.rowIn 0 rfl hv
  have hxl:xs.length = n * size:=by
    rw [← ht,List.length_take,Array.length_toList,hcs]
    exact Nat.min_eq_left (Nat.mul_le_mul_right _ hnc)
  have hlen:xs.length ≤ cur.size:=by rw [hxl,hcs]; exact Nat.mul_le_mul_right _ hnc
  have hr:=run_storeCells_at P g o e news 0 cur w hg (by omega) h1
  refine ⟨_,hr,?_⟩
  subst hv
  refine h.write (g:=g) (w':=w.setRow g _) rfl rfl rfl rfl (fun b hb hne => setRow_other w g b _ hne) (setRow_heap w g _ _ e _ hg) ⟨g,cap,_,rfl,rfl,hnc,hcm,?_,?_⟩
  · simp only [List.size_toArray,List.length_append,List.length_take,List.length_drop,Array.length_toList]; omega
  · apply List.ext_getElem?
    intro j
    rw [splice_get (by omega),List.getElem?_take]
    have hsg:=splice_get (cs:=cur.toList) (vs:=news) (i:=o) (by simp only [Array.length_toList]; omega) j
    simp only [splice] at hsg
    simp only [Nat.add_zero]
    rw [hsg]
    by_cases h2:j < n * size
    · rw [if_pos h2]
      split
      · rfl
      · rw [← ht,List.getElem?_take,if_pos h2]
    · rw [if_neg h2]
      split
      · omega
      · exact (List.getElem?_eq_none (by omega)).symm
theorem m_copyRow {dn dc sc:Nat} {a:Addr} (hu:P.underlying t = some (.slice e')) (hi:Inf P e' z size bytes) (h:St H w (row e size v n xs::L)) (hv:v = .slice (some ⟨g,0,none⟩) n cap)
    (hx:Ev N ρ x (.slice (some ⟨g,o,none⟩) dn dc)) (hy:Ev N ρ y (.slice (some a) m sc)) (hk:Nat.min m dn = k) (hnews:At w a news) (hl:news.length = k * size) (ho:o + k * size ≤ xs.length) (h1:∀ u ∈ news,u.oneCell' = true) :
    ∃ v' w',Ex P N ρ w (.call { callee:=.builtin .copy,args:=#[x,y],argTypes:=#[t,t] }) ty v' w'∧v' = .int .i64 (k:Int)∧St H w' (row e size v n (splice xs o news)::L):=by
  obtain ⟨w',hr,hs⟩:=h.putRow (P:=P) hv (o:=o) (news:=news) (by rw [hl]; exact ho) h1
  refine ⟨_,w',fun _ _ _ _ => ?_,rfl,hs⟩
  have e1:(en N ρ).eval x = .slice (some ⟨g,o,none⟩) dn dc:=hx
  have e2:(en N ρ).eval y = .slice (some a) m sc:=hy
  obtain ⟨i0,f1,_,f3,_⟩:=hi
  have hlc:=run_loadCells_list (P:=P) w a news hnews
  rw [hl] at hlc
  have hcp:(Builtin.copy_ #[t,t] ty #[.slice (some ⟨g,o,none⟩) dn dc,.slice (some a) m sc]).run P w = .ok (.int .i64 (k:Int)) w':=by
    simp only [Builtin.copy_,Sem.run_bind,run_underlying hu,Result.andThen_ok,Builtin.lenOf,Sem.run_pure,sizeOf,typeInfo,run_program,f1,Builtin.firstCells,f3,hk]
    simp [run_underlying hu,Sem.run_bind,sizeOf,typeInfo,f1,f3,hk,hlc,hr,goInt]
  simp [execOp,resolve,invoke,builtin,e1,e2,hcp]
theorem x_copy0 {A B:Option Addr} {dn dc sc:Nat} (hu:P.underlying t = some (.slice e')) (hi:Inf P e' z size bytes) (hx:Ev N ρ x (.slice A dn dc)) (hy:Ev N ρ y (.slice B m sc)) (hk:Nat.min m dn = 0) :
    Ex P N ρ w (.call { callee:=.builtin .copy,args:=#[x,y],argTypes:=#[t,t] }) ty (.int .i64 0) w:=fun _ _ _ _ => by
  have e1:(en N ρ).eval x = .slice A dn dc:=hx
  have e2:(en N ρ).eval y = .slice B m sc:=hy
  obtain ⟨i0,f1,_,f3,_⟩:=hi
  have hcp:(Builtin.copy_ #[t,t] ty #[.slice A dn dc,.slice B m sc]).run P w = .ok (.int .i64 0) w:=by
    cases A <;> cases B <;> simp [Builtin.copy_,run_underlying hu,Sem.run_bind,Builtin.lenOf,sizeOf,typeInfo,f1,f3,hk,Builtin.firstCells,loadCells,loadCellsFrom,storeCells,goInt]
  simp [execOp,resolve,invoke,builtin,e1,e2,hcp]
theorem zeroCells_list (zc:List Value) (k:Nat) (h:0 < zc.length):(Builtin.zeroCells zc.toArray k).toList = (List.replicate k zc).flatten:=by
  have:=range_cells zc k h
  have e:Builtin.zeroCells zc.toArray k = (Array.range (k * zc.length)).map fun i => zc.toArray[i % zc.toArray.size]!:=by simp [Builtin.zeroCells]
  rw [e,this]
theorem St.shrink (h:St H w (row e size (.slice (some ⟨g,0,none⟩) n cap) n xs::L)) (hk:k ≤ n):St H w (row e size (.slice (some ⟨g,0,none⟩) k cap) k (xs.take (k * size))::L) :=
  h.say (ok':=(row e size (.slice (some ⟨g,0,none⟩) k cap) k (xs.take (k * size))).ok) fun o ⟨g',cap',cur,e1,e2,h1,h2,h3,h4⟩ => by
    injection e1 with ea eb ec
    injection ea with ea
    injection ea with ea
    subst ea; subst ec
    refine ⟨g,cap,cur,rfl,e2,by omega,h2,h3,?_⟩
    rw [← h4,List.take_take,Nat.min_eq_left (Nat.mul_le_mul_right _ hk)]
theorem RowOk.shrink (ok:RowOk size (.slice (some ⟨g,0,none⟩) n cap) n xs) (hk:k ≤ n):RowOk size (.slice (some ⟨g,0,none⟩) k cap) k (xs.take (k * size)):=by
  refine ⟨?_,Nat.le_trans hk ok.2.1,.inr ⟨g,cap,rfl,?_⟩⟩
  · rw [List.length_take,ok.1,Nat.min_eq_left (Nat.mul_le_mul_right _ hk)]
  · rcases ok.2.2 with ⟨h,_⟩ | ⟨g',cap',h,hc⟩
    · cases h
    · injection h with _ _ h
      subst h; omega
theorem m_clearRow {dn dc:Nat} (hu:P.underlying t = some (.slice e')) (hi:Inf P e' z size bytes) (hzs:z.cells.toList.length = size) (h0:0 < size) (h:St H w (row e size v n xs::L)) (hv:v = .slice (some ⟨g,0,none⟩) n cap)
    (hx:Ev N ρ x (.slice (some ⟨g,o,none⟩) dn dc)) (ho:o + dn * size ≤ xs.length) (h1:∀ u ∈ z.cells.toList,u.oneCell' = true) :
    ∃ v' w',Ex P N ρ w (.call { callee:=.builtin .clear,args:=#[x],argTypes:=#[t] }) ty v' w'∧St H w' (row e size v n (splice xs o (List.replicate dn z.cells.toList).flatten)::L):=by
  have hfl:((List.replicate dn z.cells.toList).flatten).length = dn * size:=by simp [hzs]
  have h1':∀ u ∈ (List.replicate dn z.cells.toList).flatten,u.oneCell' = true:=fun u hu => by
    obtain ⟨l,hl,hul⟩:=List.mem_flatten.1 hu
    rw [List.eq_of_mem_replicate hl] at hul
    exact h1 u hul
  obtain ⟨w',hr,hs⟩:=h.putRow (P:=P) hv (o:=o) (news:=(List.replicate dn z.cells.toList).flatten) (by rw [hfl]; exact ho) h1'
  have e1:(en N ρ).eval x = .slice (some ⟨g,o,none⟩) dn dc:=hx
  obtain ⟨i0,f1,f2,f3,_⟩:=hi
  have hzt:Builtin.zeroCells z.cells dn = ((List.replicate dn z.cells.toList).flatten).toArray:=by
    apply Array.ext'
    have:Builtin.zeroCells z.cells dn = Builtin.zeroCells z.cells.toList.toArray dn:=by rw [Array.toArray_toList]
    rw [this,zeroCells_list _ _ (by omega)]
  cases dn with
  | zero =>
    have hw:w' = w:=by
      simp [storeCells] at hr
      exact hr.symm
    refine ⟨.tuple #[],w',fun _ _ _ _ => ?_,hs⟩
    have hcl:(Builtin.clear_ #[t] ty #[.slice (some ⟨g,o,none⟩) 0 dc]).run P w = .ok (.tuple #[]) w:=by
      simp [Builtin.clear_,run_underlying hu]
    rw [hw]
    simp [execOp,resolve,invoke,builtin,e1,hcl]
  | succ dn =>
    refine ⟨.tuple #[],w',fun _ _ _ _ => ?_,hs⟩
    have hcl:(Builtin.clear_ #[t] ty #[.slice (some ⟨g,o,none⟩) (dn + 1) dc]).run P w = .ok (.tuple #[]) w':=by
      simp [Builtin.clear_,run_underlying hu,zeroValue,typeInfo,f1,f2,hzt,hr]
    simp [execOp,resolve,invoke,builtin,e1,hcl]
theorem st_mv0 {op:Op} {F:Value → World → Prop} (h:∃ v w',Ex P N ρ w op ty v w'∧F v w') (k:∀ v w',F v w' → wpList P ops Q rest (en N ρ) w'):wpList P ops Q (⟨none,op,ty,pos,aft,none⟩::rest) (en N ρ) w:=by
  obtain ⟨v,w',hr,hF⟩:=h
  refine wpList_plain rfl fun K hK => ?_
  unfold Oper.wp
  rw [hr]
  simp only [Oper.upon,en_put_none]
  exact hK _ _ (k v w' hF)
end
end Go.FM
namespace Go.FM
open Go
theorem cutA_some {g c l size:Nat} (h:l < c):cutA (some ⟨g,0,none⟩) c l size = some ⟨g,l * size,none⟩:=by
  unfold cutA
  rw [if_neg (by omega)]
  simp [add_none]
section
variable {α:Type} {d:Kd α} {H:Hp} {w:World} {L:List Res} {e n g cap:Nat} {cs:List Value} {xs:List α}
end
end Go.FM
namespace Go.FM
theorem drop_self {α:Type} (l:List α) (k:Nat):(l.drop k).take (l.drop k).length = l.drop k:=List.take_length
end Go.FM
namespace Go.FM
theorem splice_take {cs vs:List Value} {o:Nat} (h:o ≤ cs.length):(splice cs o vs).take o = cs.take o:=by
  unfold splice
  rw [List.append_assoc,List.take_append_of_le_length (by rw [List.length_take]; omega),List.take_take,Nat.min_self]
end Go.FM

set_option linter.unusedVariables false
set_option linter.unusedSimpArgs false
namespace Go.FM
open Go
structure Pk where
  From:Int
  To:Int
  v:Value
  bs:List Nat
def kPk:Kd Pk where
  sz:=3
  pos:=by decide
  rep _ p cs:=cs = [.int .i64 p.From,.int .i64 p.To,p.v]∧IB p.From∧IB p.To∧RowOk 1 p.v p.bs.length (p.bs.map encB)∧Small p.bs∧p.bs.length ≤ 140737488351232
  len h:=by rw [h.1]; rfl
  one h:=by
    obtain ⟨rfl,_,_,hok,_⟩:=h
    obtain ⟨A,c,hv,_⟩:=hok.slice
    simp [Value.oneCell',hv]
  mono _ h:=h
  bts:=40
  bts0:=by decide
def pkRes (TB:Nat) (p:Pk):Res:=row TB 1 p.v p.bs.length (p.bs.map encB)
structure NetS where
  n:Int
  hr:List Nat
  ps:List Pk
  bi:List Int
  lost:Int
def encH (x:Nat):Value:=.int .u16 ((x:Nat):Int)
def netCells (n:Int) (vb vt:Value) (hr:List Nat) (lost:Int):List Value:=.int .i64 n::vb::vt::(hr.map encH ++ [.int .i64 lost])
def netG (TN TP TI TB:Nat) (g:Nat) (s:NetS) (vb:Value) (cb:List Value) (vt:Value) (ct:List Value) (L:List Res):List Res :=
  obj g TN (netCells s.n vb vt s.hr s.lost)::row TP 3 vb s.ps.length cb::row TI 1 vt s.bi.length ct::(s.ps.map (pkRes TB) ++ L)
structure NetOk (H:Hp) (s:NetS) (vb:Value) (cb:List Value) (vt:Value) (ct:List Value):Prop where
  n1:1 ≤ s.n
  n16:s.n ≤ 16
  hl:s.hr.length = 16
  hb:∀ x ∈ s.hr,x < 65536
  okb:RowOk 3 vb s.ps.length cb
  hkb:kPk.toKn.rows H s.ps cb
  okt:RowOk 1 vt s.bi.length ct
  hkt:kI.toKn.rows H s.bi ct
  len:s.bi.length = s.ps.length
  max:s.ps.length ≤ 4096
  l0:0 ≤ s.lost
theorem NetOk.mono {H H':Hp} {s:NetS} {vb:Value} {cb:List Value} {vt:Value} {ct:List Value} (h:NetOk H s vb cb vt ct) (hl:H.le H'):NetOk H' s vb cb vt ct :=
  ⟨h.n1,h.n16,h.hl,h.hb,h.okb,Kn.rows_mono h.hkb hl,h.okt,Kn.rows_mono h.hkt hl,h.len,h.max,h.l0⟩
section
variable {n lost:Int} {vb vt:Value} {hr:List Nat} {i x:Nat}
theorem net_hear (hl:hr.length = 16) (hi:i < 16):(netCells n vb vt hr lost)[3 + i]? = some (.int .u16 ((hr.getD i 0:Nat):Int)):=by
  unfold netCells
  rw [show 3 + i = i + 1 + 1 + 1 by omega]
  simp only [List.getElem?_cons_succ]
  rw [List.getElem?_append_left (by simp; omega),List.getElem?_map,List.getD_eq_getElem?_getD,List.getElem?_eq_getElem (by omega)]
  rfl
theorem net_lost (hl:hr.length = 16):(netCells n vb vt hr lost)[19]? = some (.int .i64 lost):=by
  unfold netCells
  simp only [List.getElem?_cons_succ]
  rw [List.getElem?_append_right (by simp; omega)]
  simp [hl]
theorem net_len (hl:hr.length = 16):(netCells n vb vt hr lost).length = 20:=by simp [netCells,hl]
theorem net_setH (hl:hr.length = 16) (hi:i < 16):splice (netCells n vb vt hr lost) (3 + i) [.int .u16 ((x:Nat):Int)] = netCells n vb vt (hr.set i x) lost:=by
  apply List.ext_getElem?
  intro j
  rw [splice_get (by rw [net_len hl]; simp; omega)]
  by_cases h1:j < 3
  · rw [if_neg (by omega)]
    match j,h1 with
    | 0,_ => rfl
    | 1,_ => rfl
    | 2,_ => rfl
  · obtain ⟨k,rfl⟩:∃ k,j = k + 1 + 1 + 1:=⟨j - 3,by omega⟩
    unfold netCells
    simp only [List.getElem?_cons_succ,List.length_singleton]
    by_cases h2:k < 16
    · rw [List.getElem?_append_left (by simp; omega),List.getElem?_append_left (by simp; omega),List.getElem?_map,List.getElem?_map,List.getElem?_set]
      by_cases h3:i = k
      · subst h3
        rw [if_pos (by omega),if_pos rfl,if_pos (by omega),show i + 1 + 1 + 1 - (3 + i) = 0 by omega]; rfl
      · rw [if_neg (by omega),if_neg h3]
    · rw [if_neg (by omega),List.getElem?_append_right (by simp; omega),List.getElem?_append_right (by simp; omega)]
      simp
theorem net_setL (hl:hr.length = 16) (y:Int):splice (netCells n vb vt hr lost) 19 [.int .i64 y] = netCells n vb vt hr y:=by
  apply List.ext_getElem?
  intro j
  rw [splice_get (by rw [net_len hl]; simp)]
  by_cases h1:j < 3
  · rw [if_neg (by omega)]
    match j,h1 with
    | 0,_ => rfl
    | 1,_ => rfl
    | 2,_ => rfl
  · obtain ⟨k,rfl⟩:∃ k,j = k + 1 + 1 + 1:=⟨j - 3,by omega⟩
    unfold netCells
    simp only [List.getElem?_cons_succ,List.length_singleton]
    by_cases h2:k < 16
    · rw [if_neg (by omega),List.getElem?_append_left (by simp; omega),List.getElem?_append_left (by simp; omega)]
    · by_cases h3:k = 16
      · subst h3
        rw [if_pos (by omega),List.getElem?_append_right (by simp; omega)]
        simp [hl]
      · rw [if_neg (by omega),List.getElem?_eq_none (by simp; omega),List.getElem?_eq_none (by simp; omega)]
end
section
variable {TN TP TI TB g g':Nat} {s s':NetS} {vb vt vb' vt':Value} {cb ct cb' ct':List Value} {L M:List Res} {H:Hp} {w:World}
theorem netG_perm (rs:List Res):(rs ++ netG TN TP TI TB g s vb cb vt ct L).Perm (netG TN TP TI TB g s vb cb vt ct (rs ++ L)):=by
  unfold netG
  refine (List.perm_middle (l₁:=rs)).trans (List.Perm.cons _ ?_)
  refine (List.perm_middle (l₁:=rs)).trans (List.Perm.cons _ ?_)
  refine (List.perm_middle (l₁:=rs)).trans (List.Perm.cons _ ?_)
  rw [← List.append_assoc,← List.append_assoc]
  exact List.Perm.append_right L List.perm_append_comm
theorem netG_congr (h:L.Perm M):(netG TN TP TI TB g s vb cb vt ct L).Perm (netG TN TP TI TB g s vb cb vt ct M):=by
  unfold netG
  exact ((h.append_left _).cons _ |>.cons _ |>.cons _)
theorem St.netUp (rs:List Res) (h:St H w (rs ++ netG TN TP TI TB g s vb cb vt ct L)):St H w (netG TN TP TI TB g s vb cb vt ct (rs ++ L)):=h.perm (netG_perm rs)
theorem St.netDown (rs:List Res) (h:St H w (netG TN TP TI TB g s vb cb vt ct (rs ++ L))):St H w (rs ++ netG TN TP TI TB g s vb cb vt ct L):=h.perm (netG_perm rs).symm
theorem St.netDrop (h:St H w (netG TN TP TI TB g s vb cb vt ct L)):St H w L:=by
  unfold netG at h
  exact St.tail (L':=s.ps.map (pkRes TB)) h.drop.drop.drop
theorem St.pkSnoc {a b c:Res} {p:Pk} {ps:List Pk} (h:St H w (a::b::c::pkRes TB p::(ps.map (pkRes TB) ++ L))):St H w (a::b::c::((ps ++ [p]).map (pkRes TB) ++ L)):=by
  refine h.perm (List.Perm.cons _ (List.Perm.cons _ (List.Perm.cons _ ?_)))
  rw [List.map_append,List.append_assoc]
  exact (List.perm_middle (a:=pkRes TB p) (l₁:=ps.map (pkRes TB)) (l₂:=L)).symm
theorem perm_pickG {α:Type}:∀ (L:List α) (i:Nat) (h:i < L.length),L.Perm (L[i]::L.eraseIdx i)
  | _::_,0,_ => by simp
  | x::L,i + 1,h => by
    simp only [List.getElem_cons_succ,List.eraseIdx_cons_succ]
    exact ((perm_pickG L i (by simpa using h)).cons x).trans (List.Perm.swap ..)
theorem St.pkOut {rs:List Res} {ps:List Pk} {i:Nat} {p:Pk} (h:St H w (rs ++ (ps.map (pkRes TB) ++ L))) (hp:ps[i]? = some p):St H w (pkRes TB p::(rs ++ ((ps.eraseIdx i).map (pkRes TB) ++ L))):=by
  obtain ⟨hi,rfl⟩:=List.getElem?_eq_some_iff.1 hp
  refine h.perm ?_
  have h1:=(perm_pickG ps i hi).map (pkRes TB)
  have h2:(ps.map (pkRes TB) ++ L).Perm (pkRes TB ps[i]::((ps.eraseIdx i).map (pkRes TB) ++ L)):=h1.append_right L
  exact (h2.append_left rs).trans List.perm_middle
theorem St.pkIn {rs:List Res} {ps:List Pk} {i:Nat} {p q:Pk} (h:St H w (pkRes TB q::(rs ++ ((ps.eraseIdx i).map (pkRes TB) ++ L)))) (hp:ps[i]? = some p):St H w (rs ++ ((ps.set i q).map (pkRes TB) ++ L)):=by
  obtain ⟨hi,rfl⟩:=List.getElem?_eq_some_iff.1 hp
  refine h.perm ?_
  have hi':i < (ps.set i q).length:=by simpa using hi
  have h1:=(perm_pickG (ps.set i q) i hi').map (pkRes TB)
  have e1:(ps.set i q)[i] = q:=by simp
  have e2:(ps.set i q).eraseIdx i = ps.eraseIdx i:=by
    apply List.ext_getElem?
    intro j
    rw [List.getElem?_eraseIdx,List.getElem?_eraseIdx]
    split
    · rw [List.getElem?_set,if_neg (by omega)]
    · rw [List.getElem?_set,if_neg (by omega)]
  rw [e1,e2] at h1
  have h2:((ps.set i q).map (pkRes TB) ++ L).Perm (pkRes TB q::((ps.eraseIdx i).map (pkRes TB) ++ L)):=h1.append_right L
  exact ((h2.append_left rs).trans List.perm_middle).symm
end
end Go.FM
namespace Go.FM
theorem set_hb {l:List Nat} {i x:Nat} (h:∀ y ∈ l,y < 65536) (hx:x < 65536):∀ y ∈ l.set i x,y < 65536:=fun y hy => by
  rcases List.mem_or_eq_of_mem_set hy with h1 | h1
  · exact h y h1
  · rw [h1]; exact hx
theorem set_len {l:List Nat} {i x:Nat} (h:l.length = 16):(l.set i x).length = 16:=by rw [List.length_set]; exact h
def NetS.isIn (s:NetS) (i:Int):Bool:=decide (0 ≤ i∧i < s.n)
def NetS.hears (s:NetS) (a b:Int):Bool:=s.isIn a && has (s.hr.getD a.toNat 0) b
def NetS.cls (s:NetS) (i:Int):Nat:=if s.isIn i = true then (if (lst (s.hr.getD i.toNat 0)).all (fun k => decide (s.hr.getD k 0 = s.hr.getD i.toNat 0)) then s.hr.getD i.toNat 0 else 0) else 0
def NetS.setE (s:NetS) (a b:Int):Bool:=s.isIn a && s.isIn b && decide (a ≠ b)
def NetS.setH (f:Nat → Int → Nat) (s:NetS) (a b:Int):NetS:=if s.setE a b = true then NetS.mk s.n ((s.hr.set a.toNat (f (s.hr.getD a.toNat 0) b)).set b.toNat (f (s.hr.getD b.toNat 0) a)) s.ps s.bi s.lost else s
def netNew (n:Int):NetS:=NetS.mk n (List.replicate n.toNat (2 ^ n.toNat - 1) ++ List.replicate (16 - n.toNat) 0) [] [] 0
theorem isIn_t {s:NetS} {i:Int} (h:s.isIn i = true):0 ≤ i∧i < s.n:=of_decide_eq_true h
theorem isIn_f {s:NetS} {i:Int} (h:s.isIn i = false):¬ (0 ≤ i∧i < s.n):=of_decide_eq_false h
theorem setE_f {s:NetS} {a b:Int} (h:s.isIn a = false ∨ s.isIn b = false ∨ a = b):s.setE a b = false:=by
  unfold NetS.setE
  rcases h with h | h | h
  · rw [h]; rfl
  · rw [h]; simp
  · subst h; simp
theorem setE_t {s:NetS} {a b:Int} (h1:s.isIn a = true) (h2:s.isIn b = true) (h3:¬ a = b):s.setE a b = true:=by
  unfold NetS.setE; rw [h1,h2]; simp [h3]
theorem new_step {m i:Nat} (h:i < 16):(List.replicate i m ++ List.replicate (16 - i) 0).set i m = List.replicate (i + 1) m ++ List.replicate (16 - (i + 1)) 0:=by
  rw [List.set_append_right _ _ (by simp),List.length_replicate,Nat.sub_self,show 16 - i = (16 - (i + 1)) + 1 by omega,List.replicate_succ,List.set_cons_zero,List.replicate_succ',List.append_assoc]
  rfl
theorem new_hb {m i k:Nat} (hm:m < 65536):∀ y ∈ List.replicate i m ++ List.replicate k 0,y < 65536:=fun y hy => by
  rcases List.mem_append.1 hy with h | h
  · rw [List.eq_of_mem_replicate h]; exact hm
  · rw [List.eq_of_mem_replicate h]; decide
theorem mask16 {k:Nat} (h:k ≤ 16):2 ^ k - 1 < 65536:=by
  have:2 ^ k ≤ 2 ^ 16:=Nat.pow_le_pow_right (by decide) h
  omega
theorem lst_mem16 {s j z:Nat} (h:(lst s)[j]? = some z):z < 16:=by
  have:=has_in (has_lst.1 (List.mem_of_getElem? h)); omega
theorem netNew_len {n:Int} (h1:1 ≤ n) (h2:n ≤ 16):(netNew n).hr.length = 16:=by simp [netNew]; omega
theorem netNew_hb {n:Int} (h2:n ≤ 16):∀ x ∈ (netNew n).hr,x < 65536:=new_hb (mask16 (by omega))
theorem cls_out {s:NetS} {i:Int} (h:s.isIn i = false):s.cls i = 0:=by unfold NetS.cls; rw [h]; rfl
theorem cls_no {s:NetS} {i:Int} {j z:Nat} (hj:(lst (s.hr.getD i.toNat 0))[j]? = some z) (h:s.hr.getD z 0 ≠ s.hr.getD i.toNat 0):s.cls i = 0:=by
  unfold NetS.cls
  split
  · rw [if_neg]
    intro ha
    have:=List.all_eq_true.1 ha z (List.mem_of_getElem? hj)
    exact h (by simpa using this)
  · rfl
theorem cls_yes {s:NetS} {i:Int} {j:Nat} (h1:s.isIn i = true) (ha:∀ (k z:Nat),k < j → (lst (s.hr.getD i.toNat 0))[k]? = some z → decide (s.hr.getD z 0 = s.hr.getD i.toNat 0) = true) (hj:(lst (s.hr.getD i.toNat 0)).length ≤ j):s.cls i = s.hr.getD i.toNat 0:=by
  unfold NetS.cls
  rw [if_pos h1,if_pos]
  rw [List.all_eq_true]
  intro z hz
  obtain ⟨k,hk,rfl⟩:=List.mem_iff_getElem.1 hz
  exact ha k _ (by omega) (List.getElem?_eq_getElem hk)
theorem nodes_next {p:Nat → Bool} {l:List Nat} {i x:Nat} (ha:∀ (j y:Nat),j < i → l[j]? = some y → p y = true) (hx:l[i]? = some x) (hp:p x = true):∀ (j y:Nat),j < i + 1 → l[j]? = some y → p y = true:=by
  intro j y hj hy
  by_cases h:j < i
  · exact ha j y h hy
  · obtain rfl:j = i:=by omega
    rw [hx] at hy; injection hy with hy; subst hy; exact hp
end Go.FM
namespace Go.FM
theorem getD_hb {l:List Nat} (h:∀ y ∈ l,y < 65536) (i:Nat):l.getD i 0 < 65536:=by
  rw [List.getD_eq_getElem?_getD]
  cases e:l[i]? with
  | none => simp
  | some x => simpa using h x (List.mem_of_getElem? e)
end Go.FM
namespace Go.FM
open Go
section
variable {TN TP TI TB g:Nat} {s:NetS} {vb vt:Value} {cb ct:List Value} {L:List Res} {H:Hp} {w:World}
theorem St.netFold (rs:List Res) (h:St H w (obj g TN (netCells s.n vb vt s.hr s.lost)::row TP 3 vb s.ps.length cb::row TI 1 vt s.bi.length ct::(rs ++ (s.ps.map (pkRes TB) ++ L)))):St H w (netG TN TP TI TB g s vb cb vt ct (rs ++ L)):=by
  refine h.perm (List.Perm.cons _ (List.Perm.cons _ (List.Perm.cons _ ?_)))
  rw [← List.append_assoc,← List.append_assoc]
  exact List.Perm.append_right L List.perm_append_comm
theorem St.netUnfold (rs:List Res) (h:St H w (netG TN TP TI TB g s vb cb vt ct (rs ++ L))):St H w (obj g TN (netCells s.n vb vt s.hr s.lost)::row TP 3 vb s.ps.length cb::row TI 1 vt s.bi.length ct::(rs ++ (s.ps.map (pkRes TB) ++ L))):=by
  refine h.perm (List.Perm.cons _ (List.Perm.cons _ (List.Perm.cons _ ?_)))
  rw [← List.append_assoc,← List.append_assoc]
  exact List.Perm.append_right L List.perm_append_comm
end
end Go.FM

set_option linter.unusedVariables false
set_option linter.unusedSimpArgs false
namespace Go.FM
open Go
section
variable {P:Program} {N:Nat} {ρ:Nat → Value} {w:World} {H:Hp} {L:List Res} {t e ty g n c:Nat} {x y:Operand} {A:Option Addr} {bs:List Nat}
theorem m_copyBs (hu:P.underlying t = some (.slice e)) (hi:Inf P e (.int .u8 0) 1 1) (h:St H w (row e 1 (.slice (some ⟨g,0,none⟩) n n) n (List.replicate n (.int .u8 0))::L))
    (hx:Ev N ρ x (.slice (some ⟨g,0,none⟩) n n)) (hy:Ev N ρ y (.slice A n c)) (hb:Bs H A n c bs) :
    ∃ v' w',Ex P N ρ w (.call { callee:=.builtin .copy,args:=#[x,y],argTypes:=#[t,t] }) ty v' w'∧v' = .int .i64 (n:Int)∧RowOk 1 (.slice (some ⟨g,0,none⟩) n n) bs.length (bs.map encB)∧St H w' (row e 1 (.slice (some ⟨g,0,none⟩) n n) bs.length (bs.map encB)::L):=by
  have hok:RowOk 1 (.slice (some ⟨g,0,none⟩) n n) bs.length (bs.map encB):=⟨by simp,by have h1:=hb.len; have h2:=hb.max; have h3:=hb.le; omega,.inr ⟨g,n,by rw [hb.len],by rw [hb.len]; exact Nat.le_refl _⟩⟩
  rcases hb.at_ with rfl | ⟨b,off,rfl,hat⟩
  · have hl:n = 0:=by rw [← hb.len]; rfl
    subst hl
    exact ⟨_,w,x_copy0 hu hi hx hy rfl,rfl,hok,h⟩
  · have hln:(bs.map encB).length = n:=by rw [List.length_map,hb.len]
    have:=m_copyRow (ty:=ty) (k:=n) hu hi h rfl hx hy (Nat.min_self n) (hat h) (by rw [hln,Nat.mul_one]) (by rw [List.length_replicate]; omega) (one_encB bs)
    have e1:splice (List.replicate n (.int .u8 0)) 0 (bs.map encB) = bs.map encB:=by
      apply List.ext_getElem?
      intro j
      rw [splice_get (by rw [hln,List.length_replicate]; omega)]
      by_cases hj:j < n
      · rw [if_pos (by omega),Nat.sub_zero]
      · rw [if_neg (by omega),List.getElem?_eq_none (by rw [List.length_replicate]; omega),List.getElem?_eq_none (by omega)]
    rw [e1] at this
    obtain ⟨v',w',h1,h2,h3⟩:=this
    obtain rfl:=hb.len
    exact ⟨v',w',h1,h2,hok,h3⟩
end
def NetS.putE (s:NetS) (a b:Int):Int:=if s.isIn a = true∧s.isIn b = true then (if 4096 ≤ s.ps.length then 7 else 0) else 1
def NetS.putS (s:NetS) (a b:Int) (bs:List Nat) (k:Int) (v:Value):NetS :=
  if s.isIn a = true∧s.isIn b = true then (if 4096 ≤ s.ps.length then NetS.mk s.n s.hr s.ps s.bi (s.lost + 1) else NetS.mk s.n s.hr (s.ps ++ [⟨a,b,v,bs⟩]) (s.bi ++ [k]) s.lost) else s
section
variable {s:NetS} {a b k:Int} {bs:List Nat} {v:Value}
theorem putE_no (h:s.isIn a = false ∨ s.isIn b = false):s.putE a b = 1:=if_neg (by rcases h with h | h <;> simp [h])
theorem putS_no (h:s.isIn a = false ∨ s.isIn b = false):s = s.putS a b bs k v:=(if_neg (by rcases h with h | h <;> simp [h])).symm
theorem putE_full (h1:s.isIn a = true) (h2:s.isIn b = true) (h:4096 ≤ s.ps.length):s.putE a b = 7:=by unfold NetS.putE; rw [if_pos ⟨h1,h2⟩,if_pos h]
theorem putS_full (h1:s.isIn a = true) (h2:s.isIn b = true) (h:4096 ≤ s.ps.length):NetS.mk s.n s.hr s.ps s.bi (s.lost + 1) = s.putS a b bs k v:=by unfold NetS.putS; rw [if_pos ⟨h1,h2⟩,if_pos h]
theorem putE_ok (h1:s.isIn a = true) (h2:s.isIn b = true) (h:¬ 4096 ≤ s.ps.length):s.putE a b = 0:=by unfold NetS.putE; rw [if_pos ⟨h1,h2⟩,if_neg h]
theorem putS_ok (h1:s.isIn a = true) (h2:s.isIn b = true) (h:¬ 4096 ≤ s.ps.length):NetS.mk s.n s.hr (s.ps ++ [⟨a,b,v,bs⟩]) (s.bi ++ [k]) s.lost = s.putS a b bs k v:=by unfold NetS.putS; rw [if_pos ⟨h1,h2⟩,if_neg h]
end
end Go.FM
namespace Go.FM
open Go
section
variable {s:NetS} {a b i j k:Int} {bs:List Nat} {v:Value}
theorem putS_len (h1:s.isIn a = true) (h2:s.isIn b = true) (h:¬ 4096 ≤ s.ps.length):(s.putS a b bs k v).ps.length = s.ps.length + 1:=by rw [← putS_ok h1 h2 h]; simp
end
end Go.FM
namespace Go.FM
theorem setH_n (f:Nat → Int → Nat) (s:NetS) (a b:Int):(NetS.setH f s a b).n = s.n:=by unfold NetS.setH; split <;> rfl
end Go.FM
namespace Go.FM
end Go.FM

set_option linter.unusedVariables false
set_option linter.unusedSimpArgs false
namespace Go.FM
open Go
section
variable {P:Program} {N:Nat} {ρ:Nat → Value} {H:Hp} {w w':World} {L:List Res} {t ty e e' size bytes n m c g cap i:Nat} {v:Value} {xs news:List Value} {x y:Operand} {z:Value}
theorem m_appSelf {a:Addr} (hu:P.underlying t = some (.slice e')) (hi:Inf P e' z size bytes) (h:St H w (row e size v n xs::L)) (ok:RowOk size v n xs) (hv:v = .slice (some ⟨g,0,none⟩) n cap)
    (hx:Ev N ρ x (.slice (some ⟨g,0,none⟩) i cap)) (hy:Ev N ρ y (.slice (some a) m c)) (hnews:At w a news) (hl:news.length = m * size) (h1:∀ u ∈ news,u.oneCell' = true) (hs:i + m ≤ n) :
    ∃ v' w',Ex P N ρ w (.call { callee:=.builtin .append,args:=#[x,y],argTypes:=#[t,t] }) ty v' w'∧v' = .slice (some ⟨g,0,none⟩) (i + m) cap∧St H w' (row e size v n (splice xs (i * size) news)::L):=by
  have hcap:n ≤ cap:=by
    rcases ok.2.2 with ⟨h2,rfl⟩ | ⟨g',cap',h2,h3⟩
    · omega
    · rw [hv] at h2; injection h2 with _ _ h2; omega
  obtain ⟨w',hr,hs'⟩:=h.putRow (P:=P) hv (o:=i * size) (news:=news) (by rw [hl,ok.1,← Nat.add_mul]; exact Nat.mul_le_mul_right _ hs) h1
  refine ⟨_,w',fun _ _ _ _ => ?_,rfl,hs'⟩
  have e1:(en N ρ).eval x = .slice (some ⟨g,0,none⟩) i cap:=hx
  have e2:(en N ρ).eval y = .slice (some a) m c:=hy
  obtain ⟨i0,f1,_,f3,_⟩:=hi
  have hlc:=run_loadCells_list (P:=P) w a news hnews
  rw [hl] at hlc
  have hne:i + m ≤ cap:=by omega
  have hcp:(Builtin.append_ #[t,t] ty #[.slice (some ⟨g,0,none⟩) i cap,.slice (some a) m c]).run P w = .ok (.slice (some ⟨g,0,none⟩) (i + m) cap) w':=by
    simp [Builtin.append_,run_underlying hu,Sem.run_bind,Builtin.lenOf,sizeOf,typeInfo,f1,f3,Builtin.firstCells,hlc,hr,hne,add_none]
  simp [execOp,resolve,invoke,builtin,e1,e2,hcp]
theorem sl_lhm {α:Type} {d:Kd α} {A:Option Addr} {lo hi_ mx:Operand} {a b:Int} {mc:Nat} {k k' k'':IntKind} (hu:P.underlying t = some (.slice e)) (hi:Inf P e z d.sz bytes) (hx:Ev N ρ x (.slice A n c)) (hl:Ev N ρ lo (.int k a)) (hh:Ev N ρ hi_ (.int k' b)) (hm:Ev N ρ mx (.int k'' ((mc:Nat):Int)))
    (h0:0 ≤ a) (h1:a ≤ b) (h2:b ≤ mc) (h3:mc ≤ c):Ex P N ρ w (.slice t x (some lo) (some hi_) (some mx)) ty (.slice (cutA A mc a.toNat d.sz) (b.toNat - a.toNat) (mc - a.toNat)) w:=fun _ _ _ _ => by
  obtain ⟨i0,f1,_,f3,_⟩:=hi
  have e1:(en N ρ).eval x = .slice A n c:=hx
  have e2:(en N ρ).eval lo = .int k a:=hl
  have e3:(en N ρ).eval hi_ = .int k' b:=hh
  have e4:(en N ρ).eval mx = .int k'' ((mc:Nat):Int):=hm
  have h4:0 ≤ b:=by omega
  obtain ⟨a',rfl⟩:=Int.eq_ofNat_of_zero_le h0
  obtain ⟨b',rfl⟩:=Int.eq_ofNat_of_zero_le h4
  have h5:a' ≤ b':=by omega
  have h6:b' ≤ mc:=by omega
  simp [execOp,e1,e2,e3,e4,Instr.sliceAt,run_underlying hu,Instr.slice,Instr.sliceBounds,Instr.sliceBound,asIntOf,h3,h5,h6,sizeOf,typeInfo,f1,f3,cutA]
theorem del_cells {cs vs:List Value} {n m sz:Nat} (hc:cs.length = n * sz) (hm:m < n) (hv:vs.length = sz) :
    (splice (splice cs (m * sz) (cs.drop ((m + 1) * sz))) ((n - 1) * sz) vs).take ((n - 1) * sz) = cs.take (m * sz) ++ cs.drop ((m + 1) * sz):=by
  have h1:(m + 1) * sz = m * sz + sz:=by rw [Nat.add_mul,Nat.one_mul]
  have h2:(n - 1) * sz + sz = n * sz:=by rw [← Nat.add_one_mul]; congr 1; omega
  have h3:m * sz ≤ (n - 1) * sz:=Nat.mul_le_mul_right _ (by omega)
  have hd:(cs.drop ((m + 1) * sz)).length = (n - 1) * sz - m * sz:=by rw [List.length_drop,hc,h1]; omega
  have hl:(splice cs (m * sz) (cs.drop ((m + 1) * sz))).length = n * sz:=by rw [splice_length (by rw [hd,hc]; omega),hc]
  rw [splice_take (by rw [hl]; omega)]
  apply List.ext_getElem?
  intro j
  rw [List.getElem?_take]
  by_cases hj:j < (n - 1) * sz
  · rw [if_pos hj,splice_get (by rw [hd,hc]; omega)]
    by_cases hj2:j < m * sz
    · rw [if_neg (by omega),List.getElem?_append_left (by rw [List.length_take]; omega),List.getElem?_take,if_pos hj2]
    · rw [if_pos (by omega),List.getElem?_append_right (by rw [List.length_take]; omega),List.length_take,hc,Nat.min_eq_left (by omega)]
  · rw [if_neg hj,List.getElem?_eq_none]
    rw [List.length_append,List.length_take,hd]; omega
theorem del_ok {sz:Nat} {cs:List Value} (ok:RowOk sz (.slice (some ⟨g,0,none⟩) n cap) n cs) (hm:m < n):RowOk sz (.slice (some ⟨g,0,none⟩) (n - 1) cap) (n - 1) (cs.take (m * sz) ++ cs.drop ((m + 1) * sz)):=by
  have hc:=ok.1
  have h1:(m + 1) * sz = m * sz + sz:=by rw [Nat.add_mul,Nat.one_mul]
  have h2:(n - 1) * sz + sz = n * sz:=by rw [← Nat.add_one_mul]; congr 1; omega
  have h3:m * sz ≤ (n - 1) * sz:=Nat.mul_le_mul_right _ (by omega)
  refine ⟨by rw [List.length_append,List.length_take,List.length_drop,hc]; omega,by have:=ok.2.1; omega,.inr ⟨g,cap,rfl,?_⟩⟩
  rcases ok.2.2 with ⟨h,_⟩ | ⟨g',cap',h,hc⟩
  · cases h
  · injection h with _ _ h
    subst h; omega
theorem cutA_at {sz l:Nat} {cs:List Value} (h:St H w (row e sz (.slice (some ⟨g,0,none⟩) n cap) n cs::L)) (ok:RowOk sz (.slice (some ⟨g,0,none⟩) n cap) n cs) (hl:l ≤ n):∃ a,cutA (some ⟨g,0,none⟩) cap l sz = some a∧At w a (cs.drop (l * sz)):=by
  have hcap:n ≤ cap:=by
    rcases ok.2.2 with ⟨h,_⟩ | ⟨g',cap',h,hc⟩
    · cases h
    · injection h with _ _ h
      omega
  by_cases hlc:l < cap
  · exact ⟨_,cutA_some hlc,h.rowAt 0 rfl rfl (l * sz) (drop_self _ _)⟩
  · have e1:cap = l:=by omega
    refine ⟨⟨g,0,none⟩,by unfold cutA; rw [if_pos e1],?_⟩
    rw [List.drop_eq_nil_of_le (by rw [ok.1]; exact Nat.mul_le_mul_right _ (by omega))]
    intro j u hu
    simp at hu
theorem erase_split {α:Type} (l:List α) (m:Nat):l.eraseIdx m = l.take m ++ l.drop (m + 1):=List.eraseIdx_eq_take_drop_succ l m
end
end Go.FM
namespace Go.FM
open Go
section
variable {P:Program} {N:Nat} {ρ:Nat → Value} {H:Hp} {w w':World} {L:List Res} {t ty e e2 n c:Nat} {v u:Value} {x y:Operand} {l bs:List Nat} {TB:Nat}
theorem St.pkBack {rs:List Res} {ps:List Pk} {i:Nat} {p:Pk} (h:St H w (pkRes TB p::(rs ++ ((ps.eraseIdx i).map (pkRes TB) ++ L)))) (hp:ps[i]? = some p):St H w (rs ++ (ps.map (pkRes TB) ++ L)):=by
  have:=h.pkIn hp
  obtain ⟨hi,rfl⟩:=List.getElem?_eq_some_iff.1 hp
  rwa [List.set_getElem_self] at this
theorem bs_none {A:Option Addr} (ok:RowOk 1 (.slice A bs.length c) bs.length (bs.map encB)) (h:A.isNone = true):bs = []:=by
  rcases ok.2.2 with ⟨h1,h2⟩ | ⟨g,cap,h1,_⟩
  · exact List.eq_nil_of_length_eq_zero h2
  · injection h1 with h1 _ _
    subst h1; cases h
theorem nilRowB (h:St H w L) (e:Nat) (hb:bs = []):St H w (row e 1 (.slice none 0 0) bs.length (bs.map encB)::L):=by
  subst hb; exact h.rowNil e 1
theorem nilOkB (hb:bs = []):RowOk 1 (.slice none 0 0) bs.length (bs.map encB):=by subst hb; exact RowOk.nil 1
theorem m_appRowB (hu:P.underlying t = some (.slice e)) (hi:Inf P e (.int .u8 0) 1 1) (h:St H w (row e 1 v n (l.map encB)::L)) (ok:RowOk 1 v n (l.map encB)) (hx:Ev N ρ x v) (i:Nat) (hL:(row e 1 v n (l.map encB)::L)[i]? = some (row e2 1 u bs.length (bs.map encB))) (ok2:RowOk 1 u bs.length (bs.map encB))
    (hy:Ev N ρ y u) (hm:n + bs.length ≤ 140737488355328) :
    ∃ v' w',Ex P N ρ w (.call { callee:=.builtin .append,args:=#[x,y],argTypes:=#[t,t] }) ty v' w'∧RowOk 1 v' (n + bs.length) ((l ++ bs).map encB)∧St H w' (row e 1 v' (n + bs.length) ((l ++ bs).map encB)::L):=by
  rcases h.rowAll i hL ok2 with h1 | ⟨a,⟨c',rfl⟩,hat⟩
  · have h2:bs = []:=by simpa using h1
    subst h2
    obtain ⟨A,c',rfl,_⟩:=ok2.slice
    obtain ⟨i0,e1,_⟩:=hi
    exact ⟨v,w,m_append0 hu e1 h ok hx hy,by simpa using ok,by simpa using h⟩
  · rw [List.map_append]
    exact m_app hu hi rfl (by decide) h ok hx hy (by simp) hat (one_encB bs) (by omega) (by decide)
end
def NetS.lookE (s:NetS) (i:Int):Int:=if 0 ≤ i∧i < s.ps.length then 0 else 1
def NetS.peekP (s:NetS) (i:Int):GPacket:=if 0 ≤ i then (match s.ps[i.toNat]? with | some p => ⟨p.From,p.To,p.bs⟩ | none => ⟨0,0,[]⟩) else ⟨0,0,[]⟩
def NetS.outS (s:NetS) (m:Nat):NetS:=NetS.mk s.n s.hr (s.ps.eraseIdx m) (s.bi.eraseIdx m) s.lost
theorem peek_no {s:NetS} {i:Int} (h:¬ (0 ≤ i∧i < s.ps.length)):s.peekP i = ⟨0,0,[]⟩:=by
  unfold NetS.peekP
  split
  · rw [List.getElem?_eq_none (by omega)]
  · rfl
theorem peek_at {s:NetS} {i:Int} {p:Pk} (h0:0 ≤ i) (h:s.ps[i.toNat]? = some p):s.peekP i = ⟨p.From,p.To,p.bs⟩:=by
  unfold NetS.peekP
  rw [if_pos h0,h]
theorem lookE_0 {s:NetS} {i:Int} (h:0 ≤ i∧i < s.ps.length):s.lookE i = 0:=if_pos h
theorem lookE_1 {s:NetS} {i:Int} (h:¬ (0 ≤ i∧i < s.ps.length)):s.lookE i = 1:=if_neg h
end Go.FM
namespace Go.FM
theorem RowOk.oneC {sz n:Nat} {v:Value} {xs:List Value} (ok:RowOk sz v n xs):v.oneCell' = true:=by
  obtain ⟨A,c,rfl,_⟩:=ok.slice
  rfl
theorem allC {α:Type} {p:α → Bool} {a:α} {l:List α} (h:p a = true) (hl:l.all p = true):(a::l).all p = true:=by rw [List.all_cons,h,hl]; rfl
end Go.FM
namespace Go.FM
def NetS.lose (s:NetS):NetS:=NetS.mk s.n s.hr s.ps s.bi (s.lost + 1)
def NetS.dropS (s:NetS) (i:Int):NetS:=if 0 ≤ i∧i < s.ps.length then (s.outS i.toNat).lose else s
def NetS.takeE (s:NetS) (i:Int):Int:=if 0 ≤ i∧i < s.ps.length then (if s.hears (s.peekP i).From (s.peekP i).To = true then 0 else 10) else 1
def NetS.takeP (s:NetS) (i:Int):GPacket:=if (0 ≤ i∧i < s.ps.length)∧s.hears (s.peekP i).From (s.peekP i).To = true then s.peekP i else ⟨0,0,[]⟩
def NetS.takeS (s:NetS) (i:Int):NetS:=if 0 ≤ i∧i < s.ps.length then (if s.hears (s.peekP i).From (s.peekP i).To = true then s.outS i.toNat else (s.outS i.toNat).lose) else s
theorem look_in {s:NetS} {i:Int} (h:s.lookE i = 0):0 ≤ i∧i < s.ps.length:=by
  by_cases h1:0 ≤ i∧i < s.ps.length
  · exact h1
  · rw [lookE_1 h1] at h; cases h
theorem look_out {s:NetS} {i:Int} (h:s.lookE i ≠ 0):¬ (0 ≤ i∧i < s.ps.length):=fun h1 => h (lookE_0 h1)
theorem drop_no {s:NetS} {i:Int} (h:¬ (0 ≤ i∧i < s.ps.length)):s = s.dropS i:=(if_neg h).symm
theorem drop_yes {s:NetS} {i:Int} (h:0 ≤ i∧i < s.ps.length):(s.outS i.toNat).lose = s.dropS i:=(if_pos h).symm
section
variable {s:NetS} {i:Int}
theorem take_no (h:¬ (0 ≤ i∧i < s.ps.length)):s.takeE i = 1∧s.takeP i = ⟨0,0,[]⟩∧s = s.takeS i:=⟨if_neg h,if_neg (fun h1 => h h1.1),(if_neg h).symm⟩
theorem take_yes (h:0 ≤ i∧i < s.ps.length) (hh:s.hears (s.peekP i).From (s.peekP i).To = true):s.takeE i = 0∧s.takeP i = s.peekP i∧s.outS i.toNat = s.takeS i :=
  ⟨by unfold NetS.takeE; rw [if_pos h,if_pos hh],if_pos ⟨h,hh⟩,by unfold NetS.takeS; rw [if_pos h,if_pos hh]⟩
theorem take_cut (h:0 ≤ i∧i < s.ps.length) (hh:s.hears (s.peekP i).From (s.peekP i).To = false):s.takeE i = 10∧s.takeP i = ⟨0,0,[]⟩∧(s.outS i.toNat).lose = s.takeS i :=
  ⟨by unfold NetS.takeE; rw [if_pos h,if_neg (by rw [hh]; decide)],if_neg (fun h1 => by rw [hh] at h1; exact absurd h1.2 (by decide)),by unfold NetS.takeS; rw [if_pos h,if_neg (by rw [hh]; decide)]⟩
end
end Go.FM
