/- Steps of the proofs over the functions of this seat, printed by a program (gen.py) and checked by Lean. -/
import Derived.Test.YtlfihfmmhhcigaaW00
set_option linter.unusedVariables false
namespace Go.FM
def uscan:Nat → Nat → List Nat → Option (Nat × List Nat)
  | _,_,[] => none
  | i,n,b::r => if (i = 9∧1 < b) ∨ (0 < i∧b = 0) then none else
      if b < 128 then some (n ||| ((b &&& 127) * 2 ^ (7 * i) % 18446744073709551616),r) else uscan (i + 1) (n ||| ((b &&& 127) * 2 ^ (7 * i) % 18446744073709551616)) r
def rdU (bs:List Nat) (bad:Bool):Nat × List Nat × Bool:=if bad then (0,bs,true) else match uscan 0 0 bs with
  | some (v,r) => (v,r,false)
  | none => (0,bs,true)
theorem and127 (b:Nat):b &&& 127 = b % 128:=by
  have:=Nat.and_two_pow_sub_one_eq_mod b 7
  simpa using this
theorem or_shift {n i b:Nat} (hn:n < 128 ^ i) (hb:b < 128) (h:n + b * 128 ^ i < 18446744073709551616):n ||| (b * 2 ^ (7 * i) % 18446744073709551616) = n + b * 128 ^ i:=by
  have e:2 ^ (7 * i) = 128 ^ i:=by rw [Nat.pow_mul]
  have h1:b * 2 ^ (7 * i) % 18446744073709551616 = b * 128 ^ i:=by rw [e]; exact Nat.mod_eq_of_lt (by omega)
  rw [h1,← e,Nat.mul_comm b,Nat.or_comm,← Nat.two_pow_add_eq_or_of_lt (by rw [e]; exact hn)]
  omega
theorem uscan_uenc:∀ (k m i n:Nat) (r:List Nat),m < 128 ^ (k + 1) → n < 128 ^ i → n + m * 128 ^ i < 18446744073709551616 → (0 < i → m ≠ 0) → i ≤ 9 → uscan i n (uenc m ++ r) = some (n + m * 128 ^ i,r):=by
  intro k
  induction k with
  | zero =>
    intro m i n r hm hn hl hi h9
    have hm:m < 128:=by simpa using hm
    rw [uenc_one hm]
    simp only [List.cons_append,List.nil_append,uscan]
    rw [if_neg,if_pos hm,and127,Nat.mod_eq_of_lt hm,or_shift hn hm hl]
    rintro (⟨rfl,h1⟩ | ⟨h0,h1⟩)
    · have:2 * 128 ^ 9 ≤ m * 128 ^ 9:=Nat.mul_le_mul_right _ h1
      omega
    · exact hi h0 h1
  | succ k ih =>
    intro m i n r hm hn hl hi h9
    by_cases h1:m < 128
    · rw [uenc_one h1]
      simp only [List.cons_append,List.nil_append,uscan]
      rw [if_neg,if_pos h1,and127,Nat.mod_eq_of_lt h1,or_shift hn h1 hl]
      rintro (⟨rfl,h2⟩ | ⟨h0,h2⟩)
      · have:2 * 128 ^ 9 ≤ m * 128 ^ 9:=Nat.mul_le_mul_right _ h2
        omega
      · exact hi h0 h2
    · rw [uenc_big h1]
      have hi9:i ≠ 9:=fun e => by
        subst e
        have:128 * 128 ^ 9 ≤ m * 128 ^ 9:=Nat.mul_le_mul_right _ (by omega)
        omega
      have hsm:m % 128 * 128 ^ i ≤ m * 128 ^ i:=Nat.mul_le_mul_right _ (Nat.mod_le _ _)
      have hsum:m * 128 ^ i = m % 128 * 128 ^ i + (m / 128) * 128 ^ (i + 1):=by
        conv => lhs; rw [← Nat.mod_add_div m 128]
        rw [Nat.add_mul,Nat.pow_succ,Nat.mul_comm 128 (m / 128),Nat.mul_assoc,Nat.mul_comm 128]
      simp only [List.cons_append,uscan]
      rw [if_neg (by rintro (⟨h,_⟩ | ⟨_,h⟩) <;> omega),if_neg (by omega),and127,show (m % 128 + 128) % 128 = m % 128 by omega,or_shift hn (Nat.mod_lt _ (by decide)) (by omega)]
      have hn2:n + m % 128 * 128 ^ i < 128 ^ (i + 1):=by
        have:m % 128 * 128 ^ i ≤ 127 * 128 ^ i:=Nat.mul_le_mul_right _ (by omega)
        rw [Nat.pow_succ]; omega
      rw [ih (m / 128) (i + 1) _ r (by rw [Nat.div_lt_iff_lt_mul (by decide)]; rw [← Nat.pow_succ]; exact hm) hn2 (by omega) (fun _ => by omega) (by omega)]
      congr 2
      omega
theorem rdU_uenc {m:Nat} (hm:m < 18446744073709551616) (r:List Nat):rdU (uenc m ++ r) false = (m,r,false):=by
  have h:=uscan_uenc 9 m 0 0 r (Nat.lt_of_lt_of_le hm (by decide)) (by decide) (by simpa using hm) (fun h => absurd h (by decide)) (by decide)
  simp only [rdU,Bool.false_eq_true,if_false]
  rw [h]
  simp
theorem uscan_sub:∀ (l:List Nat) (i n:Nat) {v:Nat} {r:List Nat},uscan i n l = some (v,r) → ∃ k,r = l.drop k∧k ≤ l.length∧0 < k
  | [],_,_,_,_,h => by simp [uscan] at h
  | b::l,i,n,v,r,h => by
    simp only [uscan] at h
    split at h
    · cases h
    · split at h
      · injection h with h
        injection h with _ h
        exact ⟨1,by simp [h],by simp,by decide⟩
      · obtain ⟨k,h1,h2,h3⟩:=uscan_sub l _ _ h
        exact ⟨k + 1,by simp [h1],by simp; omega,by omega⟩
theorem uscan_lt:∀ (l:List Nat) (i n:Nat) {v:Nat} {r:List Nat},n < 18446744073709551616 → uscan i n l = some (v,r) → v < 18446744073709551616
  | [],_,_,_,_,_,h => by simp [uscan] at h
  | b::l,i,n,v,r,hn,h => by
    have hb:n ||| ((b &&& 127) * 2 ^ (7 * i) % 18446744073709551616) < 18446744073709551616:=Nat.or_lt_two_pow (n:=64) hn (Nat.mod_lt _ (by decide))
    simp only [uscan] at h
    split at h
    · cases h
    · split at h
      · injection h with h
        injection h with h _
        rw [← h]; exact hb
      · exact uscan_lt l _ _ hb h
theorem rdU_lt (bs:List Nat) (bad:Bool):(rdU bs bad).1 < 18446744073709551616:=by
  unfold rdU
  split
  · show (0:Nat) < 18446744073709551616; decide
  · split
    · rename_i h; exact uscan_lt _ _ _ (by decide) h
    · show (0:Nat) < 18446744073709551616; decide
theorem uscan_get {l:List Nat} {i n:Nat} (h:i < l.length):uscan i n (l.drop i) = if (i = 9∧1 < l.getD i 0) ∨ (0 < i∧l.getD i 0 = 0) then none else
    if l.getD i 0 < 128 then some (n ||| ((l.getD i 0 &&& 127) * 2 ^ (7 * i) % 18446744073709551616),l.drop (i + 1)) else uscan (i + 1) (n ||| ((l.getD i 0 &&& 127) * 2 ^ (7 * i) % 18446744073709551616)) (l.drop (i + 1)):=by
  have e:l.drop i = l.getD i 0::l.drop (i + 1):=by
    rw [List.drop_eq_getElem_cons h,List.getD_eq_getElem?_getD,List.getElem?_eq_getElem h]; rfl
  rw [e,uscan]
end Go.FM
namespace Go.FM
theorem uenc_pos (m:Nat):1 ≤ (uenc m).length:=by
  rw [uenc]; split <;> simp
theorem rdU_none {bs:List Nat} (h:uscan 0 0 bs = none):rdU bs false = (0,bs,true):=by
  simp only [rdU,Bool.false_eq_true,if_false]; rw [h]
theorem rdU_some {bs r:List Nat} {v:Nat} (h:uscan 0 0 bs = some (v,r)):rdU bs false = (v,r,false):=by
  simp only [rdU,Bool.false_eq_true,if_false]; rw [h]
end Go.FM

set_option linter.unusedVariables false
namespace Go.FM
open Go
def encU (b:Nat):Value:=.int .u64 ((b:Nat):Int)
def Big (l:List Nat):Prop:=∀ b ∈ l,b < 18446744073709551616
theorem Big.getD {l:List Nat} (h:Big l) (i:Nat):l.getD i 0 < 18446744073709551616:=by
  rw [List.getD_eq_getElem?_getD]
  cases e:l[i]? with
  | none => show (0:Nat) < 18446744073709551616; decide
  | some b => simpa using h b (List.mem_of_getElem? e)
structure Us (H:Hp) (A:Option Addr) (n c:Nat) (bs:List Nat):Prop where
  rd:Rd H A (bs.map encU)
  len:bs.length = n
  le:n ≤ c
  max:c ≤ maxLen
  lt:Big bs
theorem Us.mono {H H':Hp} {A:Option Addr} {n c:Nat} {bs:List Nat} (h:Us H A n c bs) (hl:H.le H'):Us H' A n c bs:=⟨h.rd.mono hl,h.len,h.le,h.max,h.lt⟩
theorem Us.get {H:Hp} {A:Option Addr} {n c:Nat} {bs:List Nat} (h:Us H A n c bs) {i:Nat} (hi:i < n):∃ b off,A = some ⟨b,off,none⟩∧∀ {w:World} {L:List Res},St H w L → w.cell? ⟨b,off + i * 1,none⟩ = some (.int .u64 ((bs.getD i 0:Nat):Int)):=by
  have hne:bs.map encU ≠ []:=fun e => by
    have:=congrArg List.length e
    simp [h.len] at this
    omega
  obtain ⟨b,off,hA,hat⟩:=h.rd.at_ hne
  refine ⟨b,off,hA,fun {w L} hs => ?_⟩
  have hi':i < bs.length:=by rw [h.len]; exact hi
  have:=(hat hs).cell i (v:=encU (bs.getD i 0)) (by simp [hi'])
  simpa [encU] using this
end Go.FM
namespace Go.FM
end Go.FM

set_option linter.unusedVariables false
set_option linter.unusedSimpArgs false
namespace Go.FM
open Go Go.ChangeShapes Go.WideShapes Go.ChangeAt Go.RowKit
section
variable {H:Type} {enc:TypeId × Value → H} {P:Program} {W:World} {t e:TypeId} {v:Value} {d:DataW H} {ps:List MemPlace} {r:Reach} {b0:Nat} {ts:List TypeId} {ds:List (DataW H)} {j:Nat}
theorem rd_of_cells {x:Addr} {zs:List Value} (hcell:∀ i,i < zs.length → W.cell? (x.add i) = zs[i]?):Rd (Hp.of W) (some x) zs:=by
  by_cases h0:zs.length = 0
  · exact .inl (List.eq_nil_of_length_eq_zero h0)
  · obtain ⟨b,off,sp⟩:=x
    have h00:=hcell 0 (by omega)
    have hz0:∃ u,zs[0]? = some u:=⟨_,List.getElem?_eq_getElem (by omega)⟩
    obtain ⟨u0,hu0⟩:=hz0
    rw [hu0] at h00
    have hsp:sp = none:=by simpa [Addr.add] using World.cell?_spot h00
    subst hsp
    right
    have hadd:∀ i,(⟨b,off,none⟩:Addr).add i = ⟨b,off + i,none⟩:=fun i => add_none b off i
    cases hh:W.heap[b]? with
    | none => rw [hadd] at h00; simp [World.cell?,hh] at h00
    | some o =>
      cases o with
      | cells cs E fr =>
        refine ⟨b,off,cs,E,fr,rfl,hh,fun i u hu => ?_⟩
        have h1:=hcell i (List.getElem?_eq_some_iff.1 hu).1
        rw [hadd,hu] at h1
        simpa [World.cell?,hh] using h1
      | _ => rw [hadd] at h00; simp [World.cell?,hh] at h00
end
end Go.FM

set_option linter.unusedVariables false
set_option linter.unusedSimpArgs false
namespace Go.FM
open Go Go.ChangeShapes Go.WideShapes Go.ChangeAt Go.RowKit
structure Kd (α:Type) extends Kn α where
  bts:Nat
  bts0:0 < bts
structure Sl {α:Type} (d:Kd α) (H:Hp) (A:Option Addr) (n c:Nat) (xs:List α):Prop where
  sl:d.toKn.sl H A xs
  len:xs.length = n
  le:n ≤ c
  max:c ≤ maxLen
  bnd:n * d.bts ≤ 140737488351232
structure By (H:Hp) (A:Option Addr) (n c:Nat) (bs:List Nat):Prop extends Bs H A n c bs where
  bnd:n ≤ 140737488351232
def IB (x:Int):Prop:=-9223372036854775808 ≤ x∧x ≤ 9223372036854775807
section
variable {H H':Hp} {A:Option Addr} {n c:Nat}
theorem By.mono {bs:List Nat} (h:By H A n c bs) (hl:H.le H'):By H' A n c bs:=⟨h.toBs.mono hl,h.bnd⟩
theorem By.nil (H:Hp) (A:Option Addr):By H A 0 0 []:=⟨Bs.nil H A,by omega⟩
variable {α:Type} {d:Kd α} {xs:List α}
theorem Sl.mono (h:Sl d H A n c xs) (hl:H.le H'):Sl d H' A n c xs:=⟨Kn.sl_mono h.sl hl,h.len,h.le,h.max,h.bnd⟩
theorem Sl.nil (d:Kd α) (H:Hp) (A:Option Addr):Sl d H A 0 0 []:=⟨Kn.sl_nil A,rfl,Nat.le_refl _,Nat.zero_le _,by omega⟩
theorem Sl.take (h:Sl d H A n c xs) {k:Nat} (hk:k ≤ n):Sl d H A k c (xs.take k) :=
  ⟨Kn.sl_take h.sl k (by rw [h.len]; exact hk),by rw [List.length_take,h.len]; omega,Nat.le_trans hk h.le,h.max,Nat.le_trans (Nat.mul_le_mul_right _ hk) h.bnd⟩
theorem Sl.takeC (h:Sl d H A n c xs) {k:Nat} (hk:k ≤ n):Sl d H A k k (xs.take k) :=
  let q:=h.take hk
  ⟨q.sl,q.len,Nat.le_refl _,Nat.le_trans q.le q.max,q.bnd⟩
theorem Sl.drop (h:Sl d H A n c xs) {k:Nat} (hk:k ≤ n):Sl d H (cutA A c k d.sz) (n - k) (c - k) (xs.drop k):=by
  refine ⟨Kn.sl_drop h.sl k (by rw [h.len]; exact hk) (by rw [h.len]; exact h.le),by rw [List.length_drop,h.len],by have:=h.le; omega,by have:=h.max; omega,Nat.le_trans (Nat.mul_le_mul_right _ (Nat.sub_le _ _)) h.bnd⟩
theorem Sl.get (h:Sl d H A n c xs) {i:Nat} (hi:i < n):∃ x b off cs,xs[i]? = some x∧A = some ⟨b,off,none⟩∧d.rep H x cs∧∀ {w:World} {L:List Res},St H w L → At w ⟨b,off + i * d.sz,none⟩ cs:=by
  have hi':i < xs.length:=by rw [h.len]; exact hi
  have hx:=List.getElem?_eq_getElem hi'
  obtain ⟨b,off,cs,hA,hr,hat⟩:=Kn.sl_get h.sl i hx
  exact ⟨_,b,off,cs,hx,hA,hr,hat⟩
theorem Sl.at_ (h:Sl d H A n c xs):∃ cells,d.toKn.rows H xs cells∧(xs = [] ∨ ∃ b off,A = some ⟨b,off,none⟩∧∀ {w:World} {L:List Res},St H w L → At w ⟨b,off,none⟩ cells):=by
  obtain ⟨cells,h1,h2⟩:=h.sl
  refine ⟨cells,h2,?_⟩
  by_cases hx:xs = []
  · exact .inl hx
  · refine .inr (h1.at_ fun e => ?_)
    have:=h2.1
    rw [e] at this
    have h3:0 < xs.length * d.sz:=Nat.mul_pos (List.length_pos_iff.2 hx) d.pos
    simp at this; omega
end
namespace Kn
variable {α:Type} {d:Kn α} {H:Hp} {xs:List α} {cells:List Value}
end Kn
theorem RowOk.splice {size n i:Nat} {v:Value} {cs vs:List Value} (h:RowOk size v n cs) (hl:i + vs.length ≤ cs.length):RowOk size v n (FM.splice cs i vs):=⟨by rw [splice_length hl]; exact h.1,h.2⟩
section
variable {α:Type} {d:Kd α} {H:Hp} {w:World} {L:List Res} {e n:Nat} {v:Value} {cs:List Value} {xs:List α}
theorem St.freezeSl (h:St H w (row e d.sz v n cs::L)) (ok:RowOk d.sz v n cs) (hk:d.toKn.rows H xs cs) (hn:n * d.bts ≤ 140737488351232):∃ H' A c,H.le H'∧St H' w L∧v = .slice A n c∧Sl d H' A n c xs:=by
  have hlen:xs.length = n:=by
    have h1:=hk.1
    rw [ok.1] at h1
    exact (Nat.eq_of_mul_eq_mul_right d.pos h1).symm
  rcases ok.2.2 with ⟨rfl,rfl⟩ | ⟨g,cap,rfl,hc⟩
  · refine ⟨H,none,0,Hp.le.refl H,h.drop,rfl,?_⟩
    rw [List.length_eq_zero_iff] at hlen
    subst hlen
    exact Sl.nil d H none
  · have hcm:cap ≤ maxLen:=by
      obtain ⟨cur,_,_,_,_,h5⟩:=h.rowIn 0 rfl rfl
      exact h5
    obtain ⟨H',A,c,h1,h2,h3,h4,h5⟩:=h.freezeRow ok
    injection h3 with ha hb hc'
    subst ha; subst hc'
    exact ⟨H',_,_,h1,h2,rfl,⟨cs,h5,Kn.rows_mono hk h1⟩,hlen,h4,hcm,hn⟩
end
def kI:Kd Int where
  sz:=1
  pos:=by decide
  rep _ x cs:=cs = [.int .i64 x]∧IB x
  len h:=by rw [h.1]; rfl
  one h:=by rw [h.1]; simp [Value.oneCell']
  mono _ h:=h
  bts:=8
  bts0:=by decide
def kU (k:IntKind) (B b:Nat) (hb:0 < b):Kd Nat where
  sz:=1
  pos:=by decide
  rep _ x cs:=cs = [.int k (x:Int)]∧x < B
  len h:=by rw [h.1]; rfl
  one h:=by rw [h.1]; simp [Value.oneCell']
  mono _ h:=h
  bts:=b
  bts0:=hb
def kBs:Kd (List Nat) where
  sz:=1
  pos:=by decide
  rep H x cs:=∃ A n c,cs = [.slice A n c]∧By H A n c x
  len h:=by obtain ⟨A,n,c,rfl,_⟩:=h; rfl
  one h:=by obtain ⟨A,n,c,rfl,_⟩:=h; simp [Value.oneCell']
  mono hl h:=by obtain ⟨A,n,c,rfl,h⟩:=h; exact ⟨A,n,c,rfl,h.mono hl⟩
  bts:=24
  bts0:=by decide
def kSl {α:Type} (d:Kd α):Kd (List α) where
  sz:=1
  pos:=by decide
  rep H x cs:=∃ A n c,cs = [.slice A n c]∧Sl d H A n c x
  len h:=by obtain ⟨A,n,c,rfl,_⟩:=h; rfl
  one h:=by obtain ⟨A,n,c,rfl,_⟩:=h; simp [Value.oneCell']
  mono hl h:=by obtain ⟨A,n,c,rfl,h⟩:=h; exact ⟨A,n,c,rfl,h.mono hl⟩
  bts:=24
  bts0:=by decide
def Opn {α:Type} (P:Program) (t:TypeId) (d:Kd α):Prop :=
  ∀ {Hh:Type} {enc:TypeId × Value → Hh} {W:World} {fuel:Nat} {cs:List Value} {x:DataW Hh × List MemPlace},
    DataW.trod enc P W 0 (fun _ => true) true fuel t cs = some x → (∀ n ∈ x.1.weights P t,n ≤ reachBytes) → ∃ a,d.rep (Hp.of W) a cs
section
variable {P:Program} {t e:TypeId}
theorem opn_i64 (ht:P.underlying t = some (.int .i64)):Opn P t kI:=fun h _ => by
  obtain ⟨n,rfl,_,hw⟩:=DataW.trod_int ht h
  simp [Lit.wf,IntKind.min,IntKind.max,IntKind.signed,IntKind.bits] at hw
  exact ⟨n,rfl,by constructor <;> omega⟩
theorem opn_nat {k:IntKind} {B b:Nat} {hb:0 < b} (ht:P.underlying t = some (.int k)) (hk:k.signed = false) (hB:2 ^ k.bits = B):Opn P t (kU k B b hb):=fun h _ => by
  obtain ⟨n,rfl,_,hw⟩:=DataW.trod_int ht h
  obtain ⟨m,rfl,hm⟩:=wf_nat hk hw
  exact ⟨m,rfl,by rw [← hB]; exact hm⟩
theorem weights_all_mem {Hh:Type} {l:List (DataW Hh)} {d:DataW Hh} (h:d ∈ l) {m:Nat} (hm:m ∈ d.weights P e):m ∈ DataW.weightsAll P e l:=by
  induction l with
  | nil => cases h
  | cons x l ih =>
    simp only [DataW.weightsAll,List.mem_append]
    rcases List.mem_cons.1 h with rfl | h
    · exact .inl hm
    · exact .inr (ih h)
theorem opn_rows {α:Type} {d:Kn α} {W:World} {a:Addr}:∀ (n:Nat),(∀ i,i < n → ∃ c x,c.length = d.sz∧(∀ j,j < d.sz → W.cell? ((a.add (i * d.sz)).add j) = c[j]?)∧d.rep (Hp.of W) x c) →
    ∃ (xs:List α) (cells:List Value),xs.length = n∧d.rows (Hp.of W) xs cells∧∀ i j,i < n → j < d.sz → W.cell? ((a.add (i * d.sz)).add j) = cells[i * d.sz + j]?
  | 0,_ => ⟨[],[],rfl,Kn.rows_nil d _,fun i j h _ => absurd h (Nat.not_lt_zero _)⟩
  | n + 1,h => by
    obtain ⟨xs,cells,h1,h2,h3⟩:=opn_rows n fun i hi => h i (by omega)
    obtain ⟨c,x,hc,hx,hr⟩:=h n (by omega)
    have hlen:cells.length = n * d.sz:=by rw [h2.1,h1]
    refine ⟨xs ++ [x],cells ++ c,by simp [h1],Kn.rows_snoc h2 hr,fun i j hi hj => ?_⟩
    by_cases hin:i < n
    · rw [h3 i j hin hj,List.getElem?_append_left]
      have:(i + 1) * d.sz ≤ n * d.sz:=Nat.mul_le_mul_right _ hin
      rw [Nat.add_mul,Nat.one_mul] at this; omega
    · obtain rfl:i = n:=by omega
      rw [hx j hj,List.getElem?_append_right (by omega)]
      congr 1; omega
theorem opn_sl {α:Type} {d:Kd α} (ht:P.underlying t = some (.slice e)) (hc:P.cellsOf e = d.sz) (hb:P.bytesOf e = d.bts) (he:Opn P e d):Opn P t (kSl d):=fun {Hh enc W fuel cs x} h hw => by
  rcases DataW.trod_slice ht h with ⟨rfl,rfl⟩ | ⟨a,len,cap,elems,rest,m,_,rfl,rfl,_,hl,hm,hlen,hel,hsp,_⟩
  · exact ⟨[],none,0,0,rfl,Sl.nil d _ none⟩
  · have hsz:len * d.bts ≤ 140737488351232:=by
      have:=hw ((elems.length + rest.length) * P.bytesOf e) (by simp [DataW.weights,ht])
      have hr:reachBytes = 140737488351232:=by decide
      rw [hr,hlen,hb] at this
      exact Nat.le_trans (Nat.mul_le_mul_right _ (Nat.le_add_right _ _)) this
    have hi:∀ i,i < len → ∃ c x,c.length = d.sz∧(∀ j,j < d.sz → W.cell? ((a.add (i * d.sz)).add j) = c[j]?)∧d.rep (Hp.of W) x c:=fun i hi => by
      have h1:=hel i hi
      rw [List.getElem?_eq_getElem (by omega)] at h1
      obtain ⟨c,hcs,htr⟩:=Option.bind_eq_some_iff.1 h1
      obtain ⟨_,h3,h4⟩:=World.cells?_some hcs
      rw [hc] at h3 h4
      obtain ⟨y,hy⟩:=he htr fun k hk => hw k (by
        simp only [DataW.weights,ht,List.mem_cons,List.mem_append]
        exact .inr (.inl (weights_all_mem (List.mem_map.2 ⟨_,List.getElem_mem _,rfl⟩) hk)))
      refine ⟨c,y,h3,fun j hj => ?_,hy⟩
      exact h4 j hj
    obtain ⟨xs,cells,h1,h2,h3⟩:=opn_rows (d:=d.toKn) len hi
    refine ⟨xs,some a,len,cap,rfl,⟨cells,?_,h2⟩,h1,hl,hm,hsz⟩
    by_cases h0:len = 0
    · subst h0
      exact .inl (List.eq_nil_of_length_eq_zero (by rw [h2.1,h1]; simp))
    · have hcl:cells.length = len * d.sz:=by rw [h2.1,h1]
      have h00:=h3 0 0 (by omega) d.pos
      have hp:0 < len * d.sz:=Nat.mul_pos (by omega) d.pos
      rw [Nat.zero_mul,Nat.zero_add,List.getElem?_eq_getElem (by omega)] at h00
      have hspot:a.spot = none:=by
        have h5:=World.cell?_spot h00
        obtain ⟨b,off,sp⟩:=a
        cases sp with
        | none => rfl
        | some s => simp [Addr.add] at h5
      obtain ⟨b,off,sp⟩:=a
      obtain rfl:sp = none:=hspot
      refine rd_of_cells fun k hk => ?_
      rw [hcl] at hk
      have hdv:k / d.sz < len:=by rw [Nat.mul_comm] at hk; exact Nat.div_lt_of_lt_mul hk
      have:=h3 (k / d.sz) (k % d.sz) hdv (Nat.mod_lt _ d.pos)
      rw [add_none,add_none] at this
      rw [add_none]
      have e1:=Nat.div_add_mod k d.sz
      rw [Nat.mul_comm] at e1
      rw [show off + k / d.sz * d.sz + k % d.sz = off + k by omega,e1] at this
      exact this
theorem opn_bytes (ht:P.underlying t = some (.slice e)) (he:P.underlying e = some (.int .u8)) (hc:P.cellsOf e = 1) (hb:P.bytesOf e = 1):Opn P t kBs:=fun {Hh enc W fuel cs x} h hw => by
  obtain ⟨xs,A,n,c,rfl,hs⟩:=opn_sl (d:=kU .u8 256 1 (by decide)) ht hc hb (opn_nat he rfl rfl) h hw
  refine ⟨xs,A,n,c,rfl,⟨?_,hs.len,hs.le,hs.max,?_⟩,by have:=hs.bnd; simpa [kU] using this⟩
  · obtain ⟨cells,h1,h2⟩:=hs.sl
    have e:cells = xs.map encB:=by
      apply List.ext_getElem?
      intro j
      have hl:=h2.1
      simp only [kU,Nat.mul_one] at hl
      by_cases hj:j < xs.length
      · obtain ⟨c',h3,h4⟩:=h2.2 j _ (List.getElem?_eq_getElem hj)
        obtain ⟨rfl,_⟩:=h3
        simp only [kU,Nat.mul_one] at h4
        have:=congrArg (fun l:List Value => l[0]?) h4
        simp [List.getElem?_take,List.getElem?_drop] at this
        rw [this]; simp [hj,encB]
      · rw [List.getElem?_eq_none (by omega),List.getElem?_eq_none (by simp; omega)]
    rw [← e]; exact h1
  · intro b hb'
    obtain ⟨cells,h1,h2⟩:=hs.sl
    obtain ⟨j,hj,rfl⟩:=List.mem_iff_getElem.1 hb'
    obtain ⟨c',h3,_⟩:=h2.2 j _ (List.getElem?_eq_getElem hj)
    exact h3.2
end
section
variable {α:Type} {Hh:Type} {enc:TypeId × Value → Hh} {P:Program} {W:World} {t e:TypeId} {d:Kd α} {v:Value} {dd:DataW Hh} {ps:List MemPlace} {ts:List TypeId} {ds:List (DataW Hh)} {j:Nat} {r:Reach} {b0:Nat}
end
end Go.FM
namespace Go.FM
open Go
section
variable {P:Program} {N:Nat} {ρ:Nat → Value} {H:Hp} {w w':World} {L:List Res} {t ty e bytes m c:Nat} {v:Value} {x y:Operand} {z:Value}
variable {α:Type} {d:Kd α} {xs ys:List α} {cs news:List Value}
theorem St.krowNil (h:St H w L) (e:Nat) (d:Kd α):St H w (row e d.sz (.slice none 0 0) ([]:List α).length []::L):=h.rowNil e d.sz
theorem RowOk.knil (d:Kd α):RowOk d.sz (.slice none 0 0) ([]:List α).length []:=RowOk.nil d.sz
def AppK (P:Program) (N:Nat) (ρ:Nat → Value) (w:World) (H:Hp) (L:List Res) (op:Op) (ty e:Nat) (d:Kd α) (xs:List α):Prop :=
  ∃ v' w',Ex P N ρ w op ty v' w'∧∃ cs',RowOk d.sz v' xs.length cs'∧d.toKn.rows H xs cs'∧St H w' (row e d.sz v' xs.length cs'::L)
theorem m_appK (hu:P.underlying t = some (.slice e)) (hi:Inf P e z d.sz bytes) (hzs:z.cells.size = d.sz) (h:St H w (row e d.sz v xs.length cs::L)) (ok:RowOk d.sz v xs.length cs) (hk:d.toKn.rows H xs cs)
    (hx:Ev N ρ x v) {a:Addr} (hy:Ev N ρ y (.slice (some a) m c)) (hk2:d.toKn.rows H ys news) (hm:ys.length = m) (hnews:At w a news) (hb:(xs.length + m) * bytes ≤ 140737488355328) (hb0:0 < bytes) :
    AppK P N ρ w H L (.call { callee:=.builtin .append,args:=#[x,y],argTypes:=#[t,t] }) ty e d (xs ++ ys):=by
  obtain ⟨v',w',h1,h2,h3⟩:=m_app (ty:=ty) hu hi hzs d.pos h ok hx hy (by rw [hk2.1,hm]) hnews (Kn.rows_one_cell hk2) hb hb0
  have e1:xs.length + m = (xs ++ ys).length:=by rw [List.length_append,hm]
  rw [e1] at h2 h3
  exact ⟨v',w',h1,_,h2,Kn.rows_append hk hk2,h3⟩
variable {A:Option Addr} {n:Nat} {lo hi_ mx:Operand} {a b:Int} {k k':IntKind}
end
end Go.FM
namespace Go.FM
open Go
theorem Rd.hat {H:Hp} {b o:Nat} {cs:List Value} (h:Rd H (some ⟨b,o,none⟩) cs):∀ {w:World} {L:List Res},St H w L → At w ⟨b,o,none⟩ cs:=by
  intro w L hs
  rcases h with rfl | ⟨b',o',c,E,fr,e,h2,h3⟩
  · intro j u hu; simp at hu
  · injection e with e
    injection e with e1 e2
    subst e1; subst e2
    intro j u hu
    rw [add_none]
    exact cell_at (hs.fz b _ h2) (h3 j u hu)
section
variable {P:Program} {N:Nat} {ρ:Nat → Value} {ops:Array Oper} {rest:List Oper} {d ty:Nat} {pos:String} {aft:Array Edge} {C:World → Prop} {Qa:Act → Prop}
end
end Go.FM
namespace Go.FM
open Go
section
variable {P:Program} {N:Nat} {ρ:Nat → Value} {H:Hp} {w w':World} {L:List Res} {t ty e bytes n c:Nat} {v:Value} {x y:Operand} {z:Value} {yt:TypeId} {A:Option Addr}
variable {α:Type} {d:Kd α} {xs:List α}
end
theorem Sl.isNone {α:Type} {d:Kd α} {H:Hp} {A:Option Addr} {n c:Nat} {xs:List α} (h:Sl d H A n c xs) (hA:A.isNone = true):xs = []:=by
  cases A with
  | some a => cases hA
  | none =>
    cases xs with
    | nil => rfl
    | cons x l =>
      obtain ⟨_,b,off,_,_,hA',_⟩:=h.get (i:=0) (by have:=h.len; simp at this; omega)
      cases hA'
theorem By.isNone {H:Hp} {A:Option Addr} {n c:Nat} {xs:List Nat} (h:By H A n c xs) (hA:A.isNone = true):xs = []:=by
  cases A with
  | some a => cases hA
  | none =>
    rcases h.toBs.at_ with h1 | ⟨b,off,hA',_⟩
    · exact h1
    · cases hA'
end Go.FM

set_option linter.unusedVariables false
set_option linter.unusedSimpArgs false
namespace Go.FM
open Go
structure GViewID where
  N:Nat
  P:Int
def kViewID:Kd GViewID where
  sz:=2
  pos:=by decide
  rep H x cs:=cs = [.int .u64 (x.N:Int),.int .i64 x.P]∧x.N < 18446744073709551616∧IB (x.P)
  len h:=by obtain ⟨rfl,_⟩:=h; rfl
  one h:=by obtain ⟨rfl,_⟩:=h; simp [Value.oneCell']
  mono hl h:=by obtain ⟨rfl,h0,h1⟩:=h; exact ⟨rfl,h0,h1⟩
  bts:=16
  bts0:=by decide
instance:DecidableEq GViewID:=fun a b => decidable_of_iff (a.N = b.N∧a.P = b.P) ⟨fun h => by cases a; cases b; simp_all,fun h => by rw [h]; simp⟩
instance:Inhabited GViewID:=⟨(GViewID.mk 0 0)⟩
theorem GViewID.beq_dec (a b:GViewID):((((a.N:Nat):Int) == ((b.N:Nat):Int)) && ((a.P == b.P) && true)) = decide (a = b):=by
  rw [Bool.eq_iff_iff]
  obtain ⟨aN,aP⟩:=a
  obtain ⟨bN,bP⟩:=b
  simp only [Bool.and_eq_true,beq_iff_eq,decide_eq_true_eq,Int.ofNat_inj,Int.natCast_inj,and_true,and_assoc,GViewID.mk.injEq]
structure GView where
  ID:GViewID
  Set:Nat
instance:DecidableEq GView:=fun a b => decidable_of_iff (a.ID = b.ID∧a.Set = b.Set) ⟨fun h => by cases a; cases b; simp_all,fun h => by rw [h]; simp⟩
instance:Inhabited GView:=⟨(GView.mk (GViewID.mk 0 0) 0)⟩
theorem GView.beq_dec (a b:GView):(((((a.ID.N:Nat):Int) == ((b.ID.N:Nat):Int)) && ((a.ID.P == b.ID.P) && true)) && ((((a.Set:Nat):Int) == ((b.Set:Nat):Int)) && true)) = decide (a = b):=by
  rw [Bool.eq_iff_iff]
  obtain ⟨⟨aIDN,aIDP⟩,aSet⟩:=a
  obtain ⟨⟨bIDN,bIDP⟩,bSet⟩:=b
  simp only [Bool.and_eq_true,beq_iff_eq,decide_eq_true_eq,Int.ofNat_inj,Int.natCast_inj,and_true,and_assoc,GView.mk.injEq,GViewID.mk.injEq]
structure GItem where
  From:Int
  M:(List Nat)
def kItem:Kd GItem where
  sz:=2
  pos:=by decide
  rep H x cs:=∃ (A1:Option Addr) (n2 c3:Nat),cs = [.int .i64 x.From,.slice A1 n2 c3]∧IB (x.From)∧By H A1 n2 c3 x.M
  len h:=by obtain ⟨A1,n2,c3,rfl,_⟩:=h; rfl
  one h:=by obtain ⟨A1,n2,c3,rfl,_⟩:=h; simp [Value.oneCell']
  mono hl h:=by obtain ⟨A1,n2,c3,rfl,h0,h1⟩:=h; exact ⟨A1,n2,c3,rfl,h0,h1.mono hl⟩
  bts:=32
  bts0:=by decide
instance:DecidableEq GItem:=fun a b => decidable_of_iff (a.From = b.From∧a.M = b.M) ⟨fun h => by cases a; cases b; simp_all,fun h => by rw [h]; simp⟩
instance:Inhabited GItem:=⟨(GItem.mk 0 [])⟩
structure GState where
  V:GViewID
  Floor:Int
  Items:(List GItem)
def kState:Kd GState where
  sz:=4
  pos:=by decide
  rep H x cs:=∃ (A1:Option Addr) (n2 c3:Nat),cs = [.int .u64 (x.V.N:Int),.int .i64 x.V.P,.int .i64 x.Floor,.slice A1 n2 c3]∧x.V.N < 18446744073709551616∧IB (x.V.P)∧IB (x.Floor)∧Sl kItem H A1 n2 c3 x.Items
  len h:=by obtain ⟨A1,n2,c3,rfl,_⟩:=h; rfl
  one h:=by obtain ⟨A1,n2,c3,rfl,_⟩:=h; simp [Value.oneCell']
  mono hl h:=by obtain ⟨A1,n2,c3,rfl,h0,h1,h2,h3⟩:=h; exact ⟨A1,n2,c3,rfl,h0,h1,h2,h3.mono hl⟩
  bts:=48
  bts0:=by decide
instance:DecidableEq GState:=fun a b => decidable_of_iff (a.V = b.V∧a.Floor = b.Floor∧a.Items = b.Items) ⟨fun h => by cases a; cases b; simp_all,fun h => by rw [h]; simp⟩
instance:Inhabited GState:=⟨(GState.mk (GViewID.mk 0 0) 0 [])⟩
structure GPacket where
  From:Int
  To:Int
  Bytes:(List Nat)
instance:DecidableEq GPacket:=fun a b => decidable_of_iff (a.From = b.From∧a.To = b.To∧a.Bytes = b.Bytes) ⟨fun h => by cases a; cases b; simp_all,fun h => by rw [h]; simp⟩
instance:Inhabited GPacket:=⟨(GPacket.mk 0 0 [])⟩
structure GEvent where
  Kind:Nat
  View:GView
  From:Int
  M:(List Nat)
instance:DecidableEq GEvent:=fun a b => decidable_of_iff (a.Kind = b.Kind∧a.View = b.View∧a.From = b.From∧a.M = b.M) ⟨fun h => by cases a; cases b; simp_all,fun h => by rw [h]; simp⟩
instance:Inhabited GEvent:=⟨(GEvent.mk 0 (GView.mk (GViewID.mk 0 0) 0) 0 [])⟩
structure GFrame where
  Kind:Nat
  From:Int
  ID:GViewID
  Set:Nat
  Cur:GViewID
  Prom:GViewID
  States:(List GState)
  Base:Nat
  Msgs:(List (List Nat))
  Items:(List GItem)
  Ack:Nat
  Safe:Nat
def kFrame:Kd GFrame where
  sz:=15
  pos:=by decide
  rep H x cs:=∃ (A1:Option Addr) (n2 c3:Nat),∃ (A4:Option Addr) (n5 c6:Nat),∃ (A7:Option Addr) (n8 c9:Nat),cs = [.int .u8 (x.Kind:Int),.int .i64 x.From,.int .u64 (x.ID.N:Int),.int .i64 x.ID.P,.int .u16 (x.Set:Int),.int .u64 (x.Cur.N:Int),.int .i64 x.Cur.P,.int .u64 (x.Prom.N:Int),.int .i64 x.Prom.P,.slice A1 n2 c3,.int .u64 (x.Base:Int),.slice A4 n5 c6,.slice A7 n8 c9,.int .u64 (x.Ack:Int),.int .u64 (x.Safe:Int)]∧x.Kind < 256∧IB (x.From)∧x.ID.N < 18446744073709551616∧IB (x.ID.P)∧x.Set < 65536∧x.Cur.N < 18446744073709551616∧IB (x.Cur.P)∧x.Prom.N < 18446744073709551616∧IB (x.Prom.P)∧Sl kState H A1 n2 c3 x.States∧x.Base < 18446744073709551616∧Sl kBs H A4 n5 c6 x.Msgs∧Sl kItem H A7 n8 c9 x.Items∧x.Ack < 18446744073709551616∧x.Safe < 18446744073709551616
  len h:=by obtain ⟨A1,n2,c3,A4,n5,c6,A7,n8,c9,rfl,_⟩:=h; rfl
  one h:=by obtain ⟨A1,n2,c3,A4,n5,c6,A7,n8,c9,rfl,_⟩:=h; simp [Value.oneCell']
  mono hl h:=by obtain ⟨A1,n2,c3,A4,n5,c6,A7,n8,c9,rfl,h0,h1,h2,h3,h4,h5,h6,h7,h8,h9,h10,h11,h12,h13,h14⟩:=h; exact ⟨A1,n2,c3,A4,n5,c6,A7,n8,c9,rfl,h0,h1,h2,h3,h4,h5,h6,h7,h8,h9.mono hl,h10,h11.mono hl,h12.mono hl,h13,h14⟩
  bts:=184
  bts0:=by decide
instance:DecidableEq GFrame:=fun a b => decidable_of_iff (a.Kind = b.Kind∧a.From = b.From∧a.ID = b.ID∧a.Set = b.Set∧a.Cur = b.Cur∧a.Prom = b.Prom∧a.States = b.States∧a.Base = b.Base∧a.Msgs = b.Msgs∧a.Items = b.Items∧a.Ack = b.Ack∧a.Safe = b.Safe) ⟨fun h => by cases a; cases b; simp_all,fun h => by rw [h]; simp⟩
instance:Inhabited GFrame:=⟨(GFrame.mk 0 0 (GViewID.mk 0 0) 0 (GViewID.mk 0 0) (GViewID.mk 0 0) [] 0 [] [] 0 0)⟩
structure GAsk where
  Kind:Nat
  Most:Int
instance:DecidableEq GAsk:=fun a b => decidable_of_iff (a.Kind = b.Kind∧a.Most = b.Most) ⟨fun h => by cases a; cases b; simp_all,fun h => by rw [h]; simp⟩
instance:Inhabited GAsk:=⟨(GAsk.mk 0 0)⟩
theorem GAsk.beq_dec (a b:GAsk):((((a.Kind:Nat):Int) == ((b.Kind:Nat):Int)) && ((a.Most == b.Most) && true)) = decide (a = b):=by
  rw [Bool.eq_iff_iff]
  obtain ⟨aKind,aMost⟩:=a
  obtain ⟨bKind,bMost⟩:=b
  simp only [Bool.and_eq_true,beq_iff_eq,decide_eq_true_eq,Int.ofNat_inj,Int.natCast_inj,and_true,and_assoc,GAsk.mk.injEq]
end Go.FM

set_option linter.unusedVariables false
set_option linter.unusedSimpArgs false
namespace Go.FM
open Go Go.ChangeShapes Go.WideShapes Go.ChangeAt Go.RowKit
structure Blk {Hh:Type} (bk:DataW Hh → Nat) (bkA:List (DataW Hh) → Nat):Prop where
  nil:bkA [] = 0
  cons:∀ d l,bkA (d::l) = bk d + bkA l
  one:∀ d,1 ≤ bk d
  slice:∀ e s,bkA e + 1 ≤ bk (.slice e s)
  agg:∀ p,bkA p + 1 ≤ bk (.agg p)
def OpnZ {α:Type} (P:Program) (t:TypeId) (d:Kd α) (z:α → Nat):Prop :=
  ∀ {Hh:Type} {bk:DataW Hh → Nat} {bkA:List (DataW Hh) → Nat} (hb:Blk bk bkA) {enc:TypeId × Value → Hh} {W:World} {fuel:Nat} {cs:List Value} {x:DataW Hh × List MemPlace},
    DataW.trod enc P W 0 (fun _ => true) true fuel t cs = some x → (∀ n ∈ x.1.weights P t,n ≤ reachBytes) → ∃ a,d.rep (Hp.of W) a cs∧z a + 1 ≤ bk x.1
section
variable {P:Program} {t e:TypeId}
theorem opnz_i64 (ht:P.underlying t = some (.int .i64)):OpnZ P t kI (fun _ => 0):=fun {Hh bk bkA} hb {enc W fuel cs x} h hw => by
  obtain ⟨a,h1⟩:=opn_i64 ht h hw
  exact ⟨a,h1,hb.one _⟩
theorem opnz_nat {k:IntKind} {B b:Nat} {hb:0 < b} (ht:P.underlying t = some (.int k)) (hk:k.signed = false) (hB:2 ^ k.bits = B):OpnZ P t (kU k B b hb) (fun _ => 0):=fun {Hh bk bkA} hz {enc W fuel cs x} h hw => by
  obtain ⟨a,h1⟩:=opn_nat (hb:=hb) ht hk hB h hw
  exact ⟨a,h1,hz.one _⟩
def zL {α:Type} (z:α → Nat) (xs:List α):Nat:=(xs.map fun x => z x + 1).sum
theorem zL_snoc {α:Type} (z:α → Nat) (xs:List α) (x:α):zL z (xs ++ [x]) = zL z xs + (z x + 1):=by unfold zL; simp
theorem bkA_snoc {Hh:Type} {bk:DataW Hh → Nat} {bkA:List (DataW Hh) → Nat} (hb:Blk bk bkA) (d:DataW Hh):∀ l,bkA (l ++ [d]) = bkA l + bk d
  | [] => by rw [List.nil_append,hb.cons,hb.nil]; omega
  | x::l => by rw [List.cons_append,hb.cons,hb.cons,bkA_snoc hb d l]; omega
theorem opnz_rows {α:Type} {d:Kn α} {z:α → Nat} {W:World} {a:Addr} {Hh:Type} {bk:DataW Hh → Nat} {bkA:List (DataW Hh) → Nat} (hb:Blk bk bkA) (es:List (DataW Hh)):∀ (n:Nat),n ≤ es.length → (∀ (i:Nat) (x9:DataW Hh),i < n → es[i]? = some x9 → ∃ c x,c.length = d.sz∧(∀ j,j < d.sz → W.cell? ((a.add (i * d.sz)).add j) = c[j]?)∧d.rep (Hp.of W) x c∧z x + 1 ≤ bk x9) →
    ∃ (xs:List α) (cells:List Value),xs.length = n∧d.rows (Hp.of W) xs cells∧(∀ i j,i < n → j < d.sz → W.cell? ((a.add (i * d.sz)).add j) = cells[i * d.sz + j]?)∧zL z xs ≤ bkA (es.take n)
  | 0,_,_ => ⟨[],[],rfl,Kn.rows_nil d _,fun i j h _ => absurd h (Nat.not_lt_zero _),Nat.zero_le _⟩
  | n + 1,hn,h => by
    obtain ⟨xs,cells,h1,h2,h3,h4⟩:=opnz_rows hb es n (by omega) fun i x9 hi hx => h i x9 (by omega) hx
    have hget:es[n]? = some es[n]:=List.getElem?_eq_getElem (by omega)
    obtain ⟨c,x,hc,hx,hr,hz⟩:=h n es[n] (by omega) hget
    have hlen:cells.length = n * d.sz:=by rw [h2.1,h1]
    refine ⟨xs ++ [x],cells ++ c,by simp [h1],Kn.rows_snoc h2 hr,fun i j hi hj => ?_,?_⟩
    · by_cases hin:i < n
      · rw [h3 i j hin hj,List.getElem?_append_left]
        have:(i + 1) * d.sz ≤ n * d.sz:=Nat.mul_le_mul_right _ hin
        rw [Nat.add_mul,Nat.one_mul] at this; omega
      · obtain rfl:i = n:=by omega
        rw [hx j hj,List.getElem?_append_right (by omega)]
        congr 1; omega
    · rw [zL_snoc,List.take_add_one,hget]
      show _ ≤ bkA (es.take n ++ [es[n]])
      rw [bkA_snoc hb]; omega
theorem opnz_sl {α:Type} {d:Kd α} {z:α → Nat} (ht:P.underlying t = some (.slice e)) (hc:P.cellsOf e = d.sz) (hb:P.bytesOf e = d.bts) (he:OpnZ P e d z):OpnZ P t (kSl d) (zL z):=fun {Hh bk bkA} hz {enc W fuel cs x} h hw => by
  rcases DataW.trod_slice ht h with ⟨rfl,rfl⟩ | ⟨a,len,cap,elems,rest,m,_,rfl,rfl,_,hl,hm,hlen,hel,hsp,_⟩
  · exact ⟨[],⟨none,0,0,rfl,Sl.nil d _ none⟩,hz.one _⟩
  · have hsz:len * d.bts ≤ 140737488351232:=by
      have:=hw ((elems.length + rest.length) * P.bytesOf e) (by simp [DataW.weights,ht])
      have hr:reachBytes = 140737488351232:=by decide
      rw [hr,hlen,hb] at this
      exact Nat.le_trans (Nat.mul_le_mul_right _ (Nat.le_add_right _ _)) this
    have hi:∀ (i:Nat) x9,i < len → (elems.map (·.1))[i]? = some x9 → ∃ c x,c.length = d.sz∧(∀ j,j < d.sz → W.cell? ((a.add (i * d.sz)).add j) = c[j]?)∧d.rep (Hp.of W) x c∧z x + 1 ≤ bk x9:=fun i x9 hi hx9 => by
      have h1:=hel i hi
      rw [List.getElem?_eq_getElem (by omega)] at h1
      obtain ⟨c,hcs,htr⟩:=Option.bind_eq_some_iff.1 h1
      obtain ⟨_,h3,h4⟩:=World.cells?_some hcs
      rw [hc] at h3 h4
      obtain ⟨y,hy,hyz⟩:=he hz htr fun k hk => hw k (by
        simp only [DataW.weights,ht,List.mem_cons,List.mem_append]
        exact .inr (.inl (weights_all_mem (List.mem_map.2 ⟨_,List.getElem_mem _,rfl⟩) hk)))
      rw [List.getElem?_map,List.getElem?_eq_getElem (by omega)] at hx9
      have hx9:=Option.some.inj hx9
      refine ⟨c,y,h3,fun j hj => ?_,hy,by rw [← hx9]; exact hyz⟩
      exact h4 j hj
    obtain ⟨xs,cells,h1,h2,h3,h9⟩:=opnz_rows (d:=d.toKn) hz (elems.map (·.1)) len (by rw [List.length_map]; omega) hi
    refine ⟨xs,⟨some a,len,cap,rfl,⟨cells,?_,h2⟩,h1,hl,hm,hsz⟩,?_⟩
    by_cases h0:len = 0
    · subst h0
      exact .inl (List.eq_nil_of_length_eq_zero (by rw [h2.1,h1]; simp))
    · have hcl:cells.length = len * d.sz:=by rw [h2.1,h1]
      have h00:=h3 0 0 (by omega) d.pos
      have hp:0 < len * d.sz:=Nat.mul_pos (by omega) d.pos
      rw [Nat.zero_mul,Nat.zero_add,List.getElem?_eq_getElem (by omega)] at h00
      have hspot:a.spot = none:=by
        have h5:=World.cell?_spot h00
        obtain ⟨b,off,sp⟩:=a
        cases sp with
        | none => rfl
        | some s => simp [Addr.add] at h5
      obtain ⟨b,off,sp⟩:=a
      obtain rfl:sp = none:=hspot
      refine rd_of_cells fun k hk => ?_
      rw [hcl] at hk
      have hdv:k / d.sz < len:=by rw [Nat.mul_comm] at hk; exact Nat.div_lt_of_lt_mul hk
      have:=h3 (k / d.sz) (k % d.sz) hdv (Nat.mod_lt _ d.pos)
      rw [add_none,add_none] at this
      rw [add_none]
      have e1:=Nat.div_add_mod k d.sz
      rw [Nat.mul_comm] at e1
      rw [show off + k / d.sz * d.sz + k % d.sz = off + k by omega,e1] at this
      exact this
    · have h5:=hz.slice (elems.map (·.1)) (rest.map (·.1))
      rw [List.take_of_length_le (by rw [List.length_map]; omega)] at h9
      exact Nat.le_trans (Nat.succ_le_succ h9) h5
theorem opnz_bytes (ht:P.underlying t = some (.slice e)) (he:P.underlying e = some (.int .u8)) (hc:P.cellsOf e = 1) (hb:P.bytesOf e = 1):OpnZ P t kBs List.length:=fun {Hh bk bkA} hz {enc W fuel cs x} h hw => by
  obtain ⟨xs,⟨A,n,c,rfl,hs⟩,hzz⟩:=opnz_sl (d:=kU .u8 256 1 (by decide)) ht hc hb (opnz_nat he rfl rfl) hz h hw
  obtain ⟨ys,A',n',c',e1,hy⟩:=opn_bytes ht he hc hb h hw
  injection e1 with e1 _
  injection e1 with ea eb ec
  subst ea eb ec
  refine ⟨ys,⟨_,_,_,rfl,hy⟩,?_⟩
  have h1:zL (fun _ => 0) xs = xs.length:=by unfold zL; clear hzz hs; induction xs with | nil => rfl | cons a l ih => rw [List.map_cons,List.sum_cons,ih,List.length_cons]; show 0 + 1 + l.length = _; omega
  rw [h1,hs.len] at hzz
  rw [hy.len]; exact hzz
end
theorem bk_cons {Hh:Type} {bk:DataW Hh → Nat} {bkA:List (DataW Hh) → Nat} (hb:Blk bk bkA) {n:Nat}:∀ (xs:List (DataW Hh)),xs.length = n + 1 → ∃ x r,xs = x::r∧r.length = n∧bkA xs = bk x + bkA r
  | x::r,h => ⟨x,r,rfl,by simpa using h,hb.cons x r⟩
theorem len_cons {α:Type} {n:Nat}:∀ (l:List α),l.length = n + 1 → ∃ x r,l = x::r∧r.length = n
  | x::r,h => ⟨x,r,rfl,by simpa using h⟩
theorem opnz_arg {α:Type} {Hh:Type} {bk:DataW Hh → Nat} {bkA:List (DataW Hh) → Nat} (hb:Blk bk bkA) {enc:TypeId × Value → Hh} {P:Program} {W:World} {t:TypeId} {d:Kd α} {z:α → Nat} {v:Value} {dd:DataW Hh} {ps:List MemPlace} {ts:List TypeId} {ds:List (DataW Hh)} {j:Nat} (ho:OpnZ P t d z)
    (hd:DataW.Trod enc P W 0 (fun _ => true) true t v dd ps) (hz:(DataW.weightsEach P ts ds).all (· ≤ reachBytes) = true) (htj:ts[j]? = some t) (hdj:ds[j]? = some dd):∃ a,d.rep (Hp.of W) a v.cells.toList∧z a + 1 ≤ bk dd:=by
  obtain ⟨fuel,hf⟩:=hd
  exact ho hb hf fun n hn => by simpa using List.all_eq_true.1 hz _ (DataW.weights_mem_each htj hdj n hn)
theorem argz_st {α:Type} {Hh:Type} {bk:DataW Hh → Nat} {bkA:List (DataW Hh) → Nat} (hb:Blk bk bkA) {enc:TypeId × Value → Hh} {P:Program} {W:World} {t:TypeId} {d:Kd α} {z:α → Nat} {v:Value} {dd:DataW Hh} {ps:List MemPlace} {ts:List TypeId} {ds:List (DataW Hh)} {j:Nat} {r:Reach} {b0:Nat} {fs:Array Field} (ht:P.underlying t = some (.struct fs)) (ho:OpnZ P t d z) (hval:Value.okWide P W r b0 t v) (hd:DataW.Trod enc P W 0 (fun _ => true) true t v dd ps) (hz:(DataW.weightsEach P ts ds).all (· ≤ reachBytes) = true)
    (htj:ts[j]? = some t) (hdj:ds[j]? = some dd):∃ x cx,v = .agg cx.toArray∧d.rep (Hp.of W) x cx∧z x + 1 ≤ bk dd:=by
  obtain ⟨cs,rfl,_⟩:=okWide_struct ht hval
  obtain ⟨x,h,h2⟩:=opnz_arg hb ho hd hz htj hdj
  exact ⟨x,cs.toList,by simp,h,h2⟩
theorem opnz_parts {Hh:Type} {bk:DataW Hh → Nat} {bkA:List (DataW Hh) → Nat} (hb:Blk bk bkA) {enc:TypeId × Value → Hh} {P:Program} {W:World} {t:TypeId} {fs:Array Field} {fuel:Nat} {cs:List Value} {x:DataW Hh × List MemPlace} (ht:P.underlying t = some (.struct fs))
    (h:DataW.trod enc P W 0 (fun _ => true) true fuel t cs = some x) (hw:∀ n ∈ x.1.weights P t,n ≤ reachBytes) :
    cs.length = P.cellsOf t∧∃ xs:List (DataW Hh),xs.length = fs.size∧bkA xs + 1 ≤ bk x.1∧∀ (i:Nat) (f:Field),fs[i]? = some f → ∀ {α:Type} {d:Kd α} {z:α → Nat},OpnZ P f.type d z → ∃ a,d.rep (Hp.of W) a ((cs.drop f.offset).take (P.cellsOf f.type))∧∀ x9,xs[i]? = some x9 → z a + 1 ≤ bk x9:=by
  obtain ⟨xs,n,rfl,rfl,hlen,hxs,hfs⟩:=DataW.trod_struct ht h
  refine ⟨hlen,xs.map (·.1),by rw [List.length_map,hxs],hb.agg _,fun i f hf α d z ho => ?_⟩
  have hi:i < xs.length:=by rw [hxs]; exact (Array.getElem?_eq_some_iff.1 hf).1
  have h1:=hfs i f hf
  rw [List.getElem?_eq_getElem hi] at h1
  obtain ⟨a,k1,k2⟩:=ho hb h1 fun m hm => hw m (by
    simp only [DataW.weights,ht]
    refine DataW.weights_mem_each (j:=i) (t:=f.type) (d:=xs[i].1) ?_ ?_ m hm
    · rw [List.getElem?_map,Array.getElem?_toList,hf]; rfl
    · rw [List.getElem?_map,List.getElem?_eq_getElem hi]; rfl)
  refine ⟨a,k1,fun x9 hx => ?_⟩
  rw [List.getElem?_map,List.getElem?_eq_getElem hi] at hx
  have:=Option.some.inj hx
  rw [← this]; exact k2
end Go.FM

set_option linter.unusedVariables false
set_option linter.unusedSimpArgs false
namespace Go.FM
def has (s:Nat) (i:Int):Bool:=decide (0 ≤ i∧i < 16∧s / 2 ^ i.toNat % 2 = 1)
def pc:Nat → Nat → Nat
  | 0,_ => 0
  | f + 1,s => s % 2 + pc f (s / 2)
def cnt (s:Nat):Nat:=pc 16 s
def els:Nat → Nat → Nat → List Nat
  | 0,_,_ => []
  | f + 1,o,s => if s % 2 = 1 then o::els f (o + 1) (s / 2) else els f (o + 1) (s / 2)
def lst (s:Nat):List Nat:=els 16 0 s
def wth (s:Nat) (i:Int):Nat:=if 0 ≤ i∧i < 16 then s ||| 2 ^ i.toNat else s
def wto (s:Nat) (i:Int):Nat:=if 0 ≤ i∧i < 16 then s &&& (65535 - 2 ^ i.toNat) else s
def most (s:Nat) (n:Int):Bool:=decide (1 ≤ n∧n ≤ 16∧n < 2 * cnt s)
theorem els_mem:∀ (f o s i:Nat),i ∈ els f o s ↔ o ≤ i∧i < o + f∧s / 2 ^ (i - o) % 2 = 1
  | 0,o,s,i => by simp [els]; omega
  | f + 1,o,s,i => by
    have ih:=els_mem f (o + 1) (s / 2) i
    have key:o + 1 ≤ i → s / 2 / 2 ^ (i - (o + 1)) = s / 2 ^ (i - o):=fun h => by
      rw [Nat.div_div_eq_div_mul,show i - o = (i - (o + 1)) + 1 by omega,Nat.pow_succ,Nat.mul_comm]
    have key2:i = o → s / 2 ^ (i - o) = s:=fun h => by subst h; simp
    simp only [els]
    split
    · rename_i hs
      rw [List.mem_cons,ih]
      constructor
      · rintro (rfl | ⟨h1,h2,h3⟩)
        · exact ⟨by omega,by omega,by simpa using hs⟩
        · exact ⟨by omega,by omega,by rw [← key h1]; exact h3⟩
      · rintro ⟨h1,h2,h3⟩
        by_cases e:i = o
        · exact .inl e
        · exact .inr ⟨by omega,by omega,by rw [key (by omega)]; exact h3⟩
    · rename_i hs
      rw [ih]
      constructor
      · rintro ⟨h1,h2,h3⟩
        exact ⟨by omega,by omega,by rw [← key h1]; exact h3⟩
      · rintro ⟨h1,h2,h3⟩
        by_cases e:i = o
        · rw [key2 e] at h3; omega
        · exact ⟨by omega,by omega,by rw [key (by omega)]; exact h3⟩
end Go.FM

set_option linter.unusedVariables false
namespace Go.FM
theorem bit_ltN {j:Nat} (h:j < 16):2 ^ j < 65536:=by
  have:2 ^ j ≤ 2 ^ 15:=Nat.pow_le_pow_right (by omega) (by omega)
  have e:(2:Nat) ^ 15 = 32768:=by decide
  omega
theorem bit_lt {i:Int} (h:i < 16):2 ^ i.toNat < 65536:=bit_ltN (by omega)
theorem wth_lt {s:Nat} (h:s < 65536) (i:Int):wth s i < 65536:=by
  unfold wth; split
  · exact Nat.or_lt_two_pow (n:=16) h (bit_lt (by omega))
  · exact h
theorem wto_lt {s:Nat} (h:s < 65536) (i:Int):wto s i < 65536:=by
  unfold wto; split
  · exact Nat.lt_of_le_of_lt Nat.and_le_left h
  · exact h
def formV (n:Nat) (p:Int):Bool:=decide (0 ≤ p∧p < 16∧(0 < n ∨ p = 0))
theorem lst_lt {s i z:Nat} (h:(lst s)[i]? = some z):z < 16:=by
  have:=List.mem_of_getElem? h
  have:=(els_mem 16 0 s z).1 this
  omega
theorem eq_of_bits:∀ (f a b:Nat),a < 2 ^ f → b < 2 ^ f → (∀ j,j < f → (a / 2 ^ j % 2 = 1 ↔ b / 2 ^ j % 2 = 1)) → a = b
  | 0,a,b,ha,hb,_ => by simp at ha hb; omega
  | f + 1,a,b,ha,hb,h => by
    have h0:=h 0 (by omega)
    simp only [Nat.pow_zero,Nat.div_one] at h0
    have ih:=eq_of_bits f (a / 2) (b / 2) (by rw [Nat.pow_succ] at ha; omega) (by rw [Nat.pow_succ] at hb; omega) (fun j hj => by
      have:=h (j + 1) (by omega)
      rw [Nat.pow_succ,Nat.mul_comm,← Nat.div_div_eq_div_mul,← Nat.div_div_eq_div_mul] at this
      exact this)
    omega
theorem testBit_iff (s j:Nat):s.testBit j = true ↔ s / 2 ^ j % 2 = 1:=by
  rw [Nat.testBit_eq_decide_div_mod_eq]; simp
theorem wth_bit {a z j:Nat} (hz:z < 16):(wth a (z:Int)) / 2 ^ j % 2 = 1 ↔ a / 2 ^ j % 2 = 1 ∨ j = z:=by
  unfold wth
  rw [if_pos (by omega),← testBit_iff,← testBit_iff]
  simp only [Int.toNat_natCast,Nat.testBit_or,Nat.testBit_two_pow,Bool.or_eq_true,decide_eq_true_eq]
  rw [eq_comm (a:=z) (b:=j)]
theorem wto_bit {a z j:Nat} (hz:z < 16) (hj:j < 16) (ha:a < 65536):(wto a (z:Int)) / 2 ^ j % 2 = 1 ↔ a / 2 ^ j % 2 = 1∧j ≠ z:=by
  unfold wto
  rw [if_pos (by omega),← testBit_iff,← testBit_iff]
  simp only [Int.toNat_natCast,Nat.testBit_and,Bool.and_eq_true]
  have e:(65535 - 2 ^ z).testBit j = decide (j ≠ z):=by
    have:(2 ^ 16 - (2 ^ z + 1)).testBit j = (decide (j < 16) && !(2 ^ z).testBit j):=Nat.testBit_two_pow_sub_succ (bit_ltN hz) j
    rw [show 65535 - 2 ^ z = 2 ^ 16 - (2 ^ z + 1) by omega,this,Nat.testBit_two_pow]
    simp [hj]
    constructor <;> (intro h; omega)
  rw [e]; simp
structure Built (s n i a b:Nat):Prop where
  la:a < 65536
  lb:b < 65536
  a:∀ j,j < 16 → (a / 2 ^ j % 2 = 1 ↔ ∃ q,q < i∧(lst s)[(q + n) % (lst s).length]? = some j)
  b:∀ j,j < 16 → (b / 2 ^ j % 2 = 1 ↔ s / 2 ^ j % 2 = 1∧¬ ∃ q,q < i∧(lst s)[(q + n) % (lst s).length]? = some j)
theorem Built.next {s n i a b z:Nat} (h:Built s n i a b) (hi:i < (lst s).length) (hz:(lst s)[(i + n) % (lst s).length]? = some z) (b_s:s < 65536) :
    Built s n (i + 1) (wth (wth a (z:Int)) (z:Int)) (wto (wto b (z:Int)) (z:Int)):=by
  have hz16:=lst_lt hz
  have key:∀ j,(∃ q,q < i + 1∧(lst s)[(q + n) % (lst s).length]? = some j) ↔ (∃ q,q < i∧(lst s)[(q + n) % (lst s).length]? = some j) ∨ j = z:=by
    intro j
    constructor
    · rintro ⟨q,hq,he⟩
      by_cases e:q = i
      · subst e; rw [hz] at he; injection he with he; exact .inr he.symm
      · exact .inl ⟨q,by omega,he⟩
    · rintro (⟨q,hq,he⟩ | rfl)
      · exact ⟨q,by omega,he⟩
      · exact ⟨i,by omega,hz⟩
  refine ⟨wth_lt (wth_lt h.la _) _,wto_lt (wto_lt h.lb _) _,fun j hj => ?_,fun j hj => ?_⟩
  · rw [wth_bit hz16,wth_bit hz16,h.a j hj,key]
    constructor
    · rintro ((h | h) | h)
      · exact .inl h
      · exact .inr h
      · exact .inr h
    · rintro (h | h)
      · exact .inl (.inl h)
      · exact .inr h
  · rw [wto_bit hz16 hj (wto_lt h.lb _),wto_bit hz16 hj h.lb,h.b j hj,key]
    constructor
    · rintro ⟨⟨⟨h1,h2⟩,h3⟩,_⟩
      exact ⟨h1,fun h => h.elim h2 h3⟩
    · rintro ⟨h1,h2⟩
      exact ⟨⟨⟨h1,fun h => h2 (.inl h)⟩,fun h => h2 (.inr h)⟩,fun h => h2 (.inr h)⟩
theorem Built.done {s n i a b:Nat} (h:Built s n i a b) (b_s:s < 65536) (hi:i = (lst s).length):a = s∧b = 0:=by
  have all:∀ j,j < 16 → ((∃ q,q < i∧(lst s)[(q + n) % (lst s).length]? = some j) ↔ s / 2 ^ j % 2 = 1):=by
    intro j hj
    have hm:j ∈ lst s ↔ s / 2 ^ j % 2 = 1:=by rw [lst,els_mem]; simp; omega
    rw [← hm]
    constructor
    · rintro ⟨q,_,he⟩; exact List.mem_of_getElem? he
    · intro hmem
      obtain ⟨p,hp⟩:=List.getElem?_of_mem hmem
      have hpl:=(List.getElem?_eq_some_iff.1 hp).1
      refine ⟨(p + (lst s).length - n % (lst s).length) % (lst s).length,by rw [hi]; exact Nat.mod_lt _ (by omega),?_⟩
      have hnl:=Nat.mod_lt n (show 0 < (lst s).length by omega)
      have:((p + (lst s).length - n % (lst s).length) % (lst s).length + n) % (lst s).length = p:=by
        rw [Nat.mod_add_mod]
        have e:p + (lst s).length - n % (lst s).length + n = p + (lst s).length * (1 + n / (lst s).length):=by
          have:=Nat.div_add_mod n (lst s).length
          rw [Nat.mul_add,Nat.mul_one]
          omega
        rw [e,Nat.add_mul_mod_self_left,Nat.mod_eq_of_lt hpl]
      rw [this]; exact hp
  refine ⟨eq_of_bits 16 a s (by simpa using h.la) (by simpa using b_s) fun j hj => by rw [h.a j hj,all j hj],eq_of_bits 16 b 0 (by simpa using h.lb) (by decide) fun j hj => ?_⟩
  rw [h.b j hj,all j hj]
  simp
end Go.FM

set_option linter.unusedVariables false
set_option linter.unusedSimpArgs false
namespace Go.FM
def sEnd (s:GState):Int:=s.Floor + (s.Items.length:Int)
def sForm (s:GState):Bool:=formV s.V.N s.V.P && decide (0 ≤ s.Floor∧s.Floor ≤ 1073741824∧(s.V.N = 0 → sEnd s ≤ 0)) && s.Items.all (fun x => decide (0 ≤ x.From∧x.From < 16))
theorem take_succ' {α:Type} {l:List α} {k:Nat} {x:α} (h:l[k]? = some x):l.take (k + 1) = l.take k ++ [x]:=by
  rw [List.take_add_one,h]; rfl
def idxP {α:Type} (p:α → Bool):List α → Int
  | [] => -1
  | x::r => if p x then 0 else if idxP p r = -1 then -1 else idxP p r + 1
theorem idxP_at {α:Type} (p:α → Bool):∀ (l:List α) (i:Nat) (x:α),l[i]? = some x → p x = true → (∀ (j:Nat) (y:α),j < i → l[j]? = some y → p y = false) → idxP p l = i
  | [],i,x,h,_,_ => by simp at h
  | y::r,0,x,h,hp,_ => by simp at h; subst h; simp [idxP,hp]
  | y::r,i + 1,x,h,hp,ha => by
    have h0:=ha 0 y (by omega) rfl
    have:=idxP_at p r i x (by simpa using h) hp (fun j z hj hz => ha (j + 1) z (by omega) (by simpa using hz))
    simp only [idxP,h0,this]
    rw [if_neg (by simp),if_neg (by omega)]; omega
theorem idxP_none {α:Type} (p:α → Bool):∀ (l:List α),(∀ (j:Nat) (y:α),l[j]? = some y → p y = false) → idxP p l = -1
  | [],_ => rfl
  | y::r,ha => by
    have h0:=ha 0 y rfl
    have:=idxP_none p r (fun j z hz => ha (j + 1) z (by simpa using hz))
    simp [idxP,h0,this]
theorem idxP_find {α:Type} (p:α → Bool):∀ (l:List α),(idxP p l = -1∧l.find? p = none) ∨ ∃ i x,idxP p l = (i:Nat)∧l[i]? = some x∧l.find? p = some x
  | [] => .inl ⟨rfl,rfl⟩
  | y::r => by
    by_cases h:p y = true
    · exact .inr ⟨0,y,by simp [idxP,h],rfl,by simp [h]⟩
    · have h':p y = false:=by simpa using h
      rcases idxP_find p r with ⟨h1,h2⟩ | ⟨i,x,h1,h2,h3⟩
      · exact .inl ⟨by simp [idxP,h',h1],by simp [h',h2]⟩
      · refine .inr ⟨i + 1,x,?_,by simpa using h2,by simp [h',h3]⟩
        simp only [idxP,h',h1]
        rw [if_neg (by simp),if_neg (by omega)]; omega
end Go.FM
namespace Go.FM
theorem before_next {α:Type} {p:α → Bool} {l:List α} {i:Nat} {x:α} (ha:∀ (j:Nat) (y:α),j < i → l[j]? = some y → p y = false) (hx:l[i]? = some x) (hp:p x = false):∀ (j:Nat) (y:α),j < i + 1 → l[j]? = some y → p y = false:=by
  intro j y hj hy
  by_cases h:j < i
  · exact ha j y h hy
  · obtain rfl:j = i:=by omega
    rw [hx] at hy; injection hy with hy; subst hy; exact hp
theorem lists_ne_len {α:Type} [DecidableEq α] {a b:List α} (h:a.length ≠ b.length):decide (a = b) = false:=decide_eq_false fun e => h (by rw [e])
theorem lists_ne_at {α:Type} [DecidableEq α] {a b:List α} {i:Nat} {x y:α} (hx:a[i]? = some x) (hy:b[i]? = some y) (h:x ≠ y):decide (a = b) = false:=decide_eq_false fun e => by rw [e,hy] at hx; injection hx with hx; exact h hx.symm
theorem take_eq_next {α:Type} {a b:List α} {i:Nat} {x y:α} (h:a.take i = b.take i) (hx:a[i]? = some x) (hy:b[i]? = some y) (e:x = y):a.take (i + 1) = b.take (i + 1):=by
  rw [take_succ' hx,take_succ' hy,h,e]
theorem lists_eq {α:Type} [DecidableEq α] {a b:List α} {i:Nat} (h:a.take i = b.take i) (ha:a.length ≤ i) (hb:b.length ≤ i):decide (a = b) = true:=decide_eq_true (by rwa [List.take_of_length_le ha,List.take_of_length_le hb] at h)
end Go.FM
namespace Go.FM
theorem item_eq {x y:GItem} (h1:x.From = y.From) (h2:bstr x.M = bstr y.M) (s1:Small x.M) (s2:Small y.M):x = y:=by
  have:=(bstr_inj s1 s2).1 h2
  cases x; cases y; simp_all
theorem item_ne_from {x y:GItem} (h:x.From ≠ y.From):x ≠ y:=fun e => h (by rw [e])
theorem item_ne_m {x y:GItem} (h:¬ bstr x.M = bstr y.M):x ≠ y:=fun e => h (by rw [e])
theorem state_eq {x y:GState} (h1:x.V = y.V) (h2:x.Floor = y.Floor) (h3:decide (x.Items = y.Items) = true):x = y:=by
  have:=of_decide_eq_true h3
  cases x; cases y; simp_all
theorem state_ne {x y:GState} (h:¬ (x.V = y.V∧x.Floor = y.Floor∧x.Items = y.Items)):x ≠ y:=fun e => h (by rw [e]; exact ⟨rfl,rfl,rfl⟩)
theorem next_all {α:Type} {p:α → Bool} {l:List α} {i:Nat} {x:α} (ha:∀ (j:Nat) (y:α),j < i → l[j]? = some y → p y = true) (hx:l[i]? = some x) (hp:p x = true):∀ (j:Nat) (y:α),j < i + 1 → l[j]? = some y → p y = true:=by
  intro j y hj hy
  by_cases h:j < i
  · exact ha j y h hy
  · obtain rfl:j = i:=by omega
    rw [hx] at hy; injection hy with hy; subst hy; exact hp
end Go.FM
namespace Go.FM
end Go.FM

set_option linter.unusedVariables false
set_option linter.unusedSimpArgs false
namespace Go.FM
section
variable {α β:Type} {f:α → β → Int} {x:List α} {t:β}
end
end Go.FM
namespace Go.FM
end Go.FM

set_option linter.unusedVariables false
set_option linter.unusedSimpArgs false
namespace Go.FM
end Go.FM
namespace Go.FM
def badFrom (x:GItem):Bool:=decide (x.From < 0 ∨ 16 ≤ x.From)
theorem idxP_any {α:Type} (p:α → Bool) (l:List α):decide (0 ≤ idxP p l) = l.any p:=by
  rcases idxP_find p l with ⟨h1,h2⟩ | ⟨i,x,h1,h2,h3⟩
  · have:l.any p = false:=by
      rw [List.any_eq_false]
      rw [List.find?_eq_none] at h2
      exact h2
    rw [this,h1]; rfl
  · have:l.any p = true:=List.any_eq_true.2 ⟨x,List.mem_of_getElem? h2,by have:=List.find?_some h3; exact this⟩
    rw [this,h1]; simp
theorem good_from (x:GItem):(!badFrom x) = decide (0 ≤ x.From∧x.From < 16):=by
  unfold badFrom
  rw [← decide_not]
  exact decide_eq_decide.2 (by omega)
theorem all_good (l:List GItem):(!l.any badFrom) = l.all (fun x => decide (0 ≤ x.From∧x.From < 16)):=by
  induction l with
  | nil => rfl
  | cons x l ih => rw [List.any_cons,List.all_cons,Bool.not_or,ih,good_from]
theorem sForm_false {s:GState} (h:formV s.V.N s.V.P = false ∨ s.Floor < 0 ∨ 1073741824 < s.Floor ∨ (s.V.N = 0∧0 < sEnd s)):sForm s = false:=by
  unfold sForm
  rcases h with h | h
  · rw [h]; rfl
  · have:decide (0 ≤ s.Floor∧s.Floor ≤ 1073741824∧(s.V.N = 0 → sEnd s ≤ 0)) = false:=decide_eq_false (by omega)
    rw [this]; simp
theorem sForm_true {s:GState} (h:formV s.V.N s.V.P = true) (h2:0 ≤ s.Floor∧s.Floor ≤ 1073741824∧(s.V.N = 0 → sEnd s ≤ 0)):sForm s = !s.Items.any badFrom:=by
  unfold sForm
  rw [h,decide_eq_true h2,all_good]; rfl
theorem sForm_item {s:GState} {i:Nat} {x:GItem} (hx:s.Items[i]? = some x) (h:x.From < 0 ∨ 15 < x.From):sForm s = false:=by
  unfold sForm
  have:s.Items.all (fun x => decide (0 ≤ x.From∧x.From < 16)) = false:=by
    rw [List.all_eq_false]
    exact ⟨x,List.mem_of_getElem? hx,by simp; omega⟩
  rw [this]; simp
theorem sForm_end {s:GState} {i:Nat} (h:∀ (j:Nat) (y:GItem),j < i → s.Items[j]? = some y → decide (0 ≤ y.From∧y.From < 16) = true) (hi:s.Items.length ≤ i) :
    sForm s = (formV s.V.N s.V.P && decide (0 ≤ s.Floor∧s.Floor ≤ 1073741824∧(s.V.N = 0 → sEnd s ≤ 0))):=by
  unfold sForm
  have:s.Items.all (fun x => decide (0 ≤ x.From∧x.From < 16)) = true:=by
    rw [List.all_eq_true]
    intro x hx
    obtain ⟨j,hj,rfl⟩:=List.mem_iff_getElem.1 hx
    exact h j _ (by omega) (List.getElem?_eq_getElem hj)
  rw [this,Bool.and_true]
end Go.FM

set_option linter.unusedVariables false
set_option linter.unusedSimpArgs false
namespace Go.FM
end Go.FM
namespace Go.FM
end Go.FM

set_option linter.unusedVariables false
namespace Go.FM
def pv:List Nat → Nat
  | [] => 0
  | b::l => b % 128 + 128 * pv l
theorem pv_snoc (l:List Nat) (b:Nat):pv (l ++ [b]) = pv l + b % 128 * 2 ^ (7 * l.length):=by
  induction l with
  | nil => simp [pv]
  | cons a l ih =>
    simp only [List.cons_append,pv,ih,List.length_cons]
    rw [Nat.mul_add 128,show 7 * (l.length + 1) = 7 * l.length + 7 by omega,Nat.pow_add,← Nat.mul_assoc (b % 128),Nat.mul_comm _ (2 ^ 7),← Nat.add_assoc]
theorem uenc_pv:∀ (p:List Nat) (b:Nat),(∀ x ∈ p,128 ≤ x∧x < 256) → b < 128 → (p ≠ [] → b ≠ 0) → uenc (pv (p ++ [b])) = p ++ [b]
  | [],b,_,hb,_ => by
    have:pv ([] ++ [b]) = b:=by simp [pv]; omega
    rw [this,uenc_one hb]; rfl
  | a::p,b,hp,hb,h0 => by
    have ha:=hp a List.mem_cons_self
    have hb0:=h0 (by simp)
    have ih:=uenc_pv p b (fun x hx => hp x (List.mem_cons_of_mem _ hx)) hb (fun _ => hb0)
    have hpos:0 < pv (p ++ [b]):=by
      rw [pv_snoc]
      have:0 < b % 128 * 2 ^ (7 * p.length):=Nat.mul_pos (by omega) (Nat.two_pow_pos _)
      omega
    simp only [List.cons_append,pv]
    rw [uenc_big (by omega),show (a % 128 + 128 * pv (p ++ [b])) / 128 = pv (p ++ [b]) by omega,ih]
    congr 1
    omega
theorem uscan_pre:∀ (p:List Nat) (j n:Nat) (r:List Nat),(∀ b ∈ p,128 ≤ b) → uscan j n (p ++ r) = none ∨ ∃ n',uscan j n (p ++ r) = uscan (j + p.length) n' r
  | [],j,n,r,_ => .inr ⟨n,rfl⟩
  | b::p,j,n,r,h => by
    have hb:=h b List.mem_cons_self
    simp only [List.cons_append,uscan]
    split
    · exact .inl rfl
    · rw [if_neg (by omega)]
      rcases uscan_pre p (j + 1) (n ||| ((b &&& 127) * 2 ^ (7 * j) % 18446744073709551616)) r (fun x hx => h x (List.mem_cons_of_mem _ hx)) with h1 | ⟨n',h1⟩
      · exact .inl h1
      · exact .inr ⟨n',by rw [h1,List.length_cons]; congr 1; omega⟩
theorem uscan_noend {l:List Nat} (h:∀ b ∈ l,128 ≤ b):uscan 0 0 l = none:=by
  rcases uscan_pre l 0 0 [] h with h1 | ⟨n',h1⟩
  · simpa using h1
  · simpa [uscan] using h1
theorem uscan_ten {l:List Nat} (hl:10 ≤ l.length) (h:∀ b ∈ l.take 10,128 ≤ b):uscan 0 0 l = none:=by
  have e:l = l.take 9 ++ l.getD 9 0::l.drop 10:=by
    conv => lhs; rw [← List.take_append_drop 9 l,List.drop_eq_getElem_cons (by omega:9 < l.length)]
    rw [List.getD_eq_getElem?_getD,List.getElem?_eq_getElem (by omega:9 < l.length)]; rfl
  have h9:128 ≤ l.getD 9 0:=by
    refine h _ ?_
    rw [List.getD_eq_getElem?_getD,List.getElem?_eq_getElem (by omega:9 < l.length)]
    exact List.mem_of_getElem? (i:=9) (by rw [List.getElem?_take,if_pos (by decide),List.getElem?_eq_getElem (by omega:9 < l.length)]; rfl)
  have hp:∀ b ∈ l.take 9,128 ≤ b:=fun b hb => h b (by
    obtain ⟨i,hi⟩:=List.mem_iff_getElem?.1 hb
    rw [List.getElem?_take] at hi
    split at hi
    · exact List.mem_of_getElem? (i:=i) (by rw [List.getElem?_take,if_pos (by omega)]; exact hi)
    · cases hi)
  rw [e]
  rcases uscan_pre (l.take 9) 0 0 (l.getD 9 0::l.drop 10) hp with h1 | ⟨n',h1⟩
  · exact h1
  · rw [h1,uscan,show 0 + (l.take 9).length = 9 by simp; omega,if_pos (.inl ⟨rfl,by omega⟩)]
theorem uscan_end {l:List Nat} (hs:Small l) {i:Nat} (hi:i < l.length) (h9:i < 10) (hp:∀ b ∈ l.take i,128 ≤ b) (hb:l.getD i 0 < 128) :
    uscan 0 0 l = if uenc (pv (l.take (i + 1)) % 18446744073709551616) = l.take (i + 1) then some (pv (l.take (i + 1)) % 18446744073709551616,l.drop (i + 1)) else none:=by
  have et:l.take (i + 1) = l.take i ++ [l.getD i 0]:=by
    rw [List.take_add_one,List.getD_eq_getElem?_getD,List.getElem?_eq_getElem hi]; rfl
  have el:l = l.take (i + 1) ++ l.drop (i + 1):=(List.take_append_drop _ l).symm
  split
  · rename_i he
    have hm:pv (l.take (i + 1)) % 18446744073709551616 < 18446744073709551616:=Nat.mod_lt _ (by decide)
    have:=uscan_uenc 9 _ 0 0 (l.drop (i + 1)) (Nat.lt_of_lt_of_le hm (by decide)) (by decide) (by simpa using hm) (fun h => absurd h (by decide)) (by decide)
    conv => lhs; rw [el,← he]
    rw [this]; simp
  · rename_i he
    have hbad:(i = 9∧1 < l.getD i 0) ∨ (0 < i∧l.getD i 0 = 0):=by
      refine Classical.byContradiction fun hn => he ?_
      have h0:l.take i ≠ [] → l.getD i 0 ≠ 0:=fun hne h0 => hn (.inr ⟨Nat.pos_of_ne_zero (fun e => hne (by rw [e]; rfl)),h0⟩)
      have hu:=uenc_pv (l.take i) (l.getD i 0) (fun x hx => ⟨hp x hx,hs.take i x hx⟩) hb h0
      have hlt:pv (l.take i ++ [l.getD i 0]) < 18446744073709551616:=by
        have hpl:∀ (q:List Nat),pv q < 2 ^ (7 * q.length):=fun q => by
          induction q with
          | nil => simp [pv]
          | cons a q ih => simp only [pv,List.length_cons]; rw [show 7 * (q.length + 1) = 7 + 7 * q.length by omega,Nat.pow_add]; omega
        have h1:=hpl (l.take i)
        have hl:(l.take i).length = i:=by simp; omega
        rw [hl] at h1
        rw [pv_snoc,hl,Nat.mod_eq_of_lt hb]
        by_cases hi9:i = 9
        · subst hi9
          have:l.getD 9 0 ≤ 1:=by
            have:¬ 1 < l.getD 9 0:=fun h => hn (.inl ⟨rfl,h⟩)
            omega
          have h2:l.getD 9 0 * 2 ^ (7 * 9) ≤ 1 * 2 ^ (7 * 9):=Nat.mul_le_mul_right _ this
          omega
        · have h2:l.getD i 0 * 2 ^ (7 * i) ≤ 127 * 2 ^ (7 * i):=Nat.mul_le_mul_right _ (by omega)
          have h3:2 ^ (7 * i) ≤ 2 ^ 56:=Nat.pow_le_pow_right (by decide) (by omega)
          omega
      rw [et,Nat.mod_eq_of_lt hlt,hu]
    have e2:l = l.take i ++ l.getD i 0::l.drop (i + 1):=by
      conv => lhs; rw [el,et]
      simp
    have hl:(l.take i).length = i:=by simp; omega
    conv => lhs; rw [e2]
    rcases uscan_pre (l.take i) 0 0 (l.getD i 0::l.drop (i + 1)) hp with h1 | ⟨n',h1⟩
    · exact h1
    · rw [h1,uscan,hl,Nat.zero_add,if_pos hbad]
end Go.FM
namespace Go.FM
def Rr (n:Nat) (bs cur:List Nat) (bad:Bool) (at_:Int):Prop:=(bad = true∧at_ = -1) ∨ (bad = false∧∃ k,k ≤ n∧at_ = ((k:Nat):Int)∧cur = bs.drop k)
end Go.FM
namespace Go.FM
def rdI (bs:List Nat) (bad:Bool) (most:Int):Nat × List Nat × Bool :=
  if (rdU bs bad).2.2 = true ∨ most < 0 ∨ most < ((rdU bs bad).1:Int) then (0,(rdU bs bad).2.1,true) else ((rdU bs bad).1,(rdU bs bad).2.1,false)
theorem rdI_bad {bs:List Nat} {bad:Bool} {most:Int} (h:(rdU bs bad).2.2 = true ∨ most < 0 ∨ most < ((rdU bs bad).1:Int)):rdI bs bad most = (0,(rdU bs bad).2.1,true):=by unfold rdI; rw [if_pos h]
theorem rdI_good {bs:List Nat} {bad:Bool} {most:Int} (h1:(rdU bs bad).2.2 = false) (h2:¬ most < 0) (h3:¬ most < ((rdU bs bad).1:Int)):rdI bs bad most = ((rdU bs bad).1,(rdU bs bad).2.1,false):=by
  unfold rdI; rw [if_neg (by rw [h1]; simp; omega)]
theorem rdI_le (bs:List Nat) (bad:Bool) (most:Int) (hm:most ≤ 9223372036854775807):(rdI bs bad most).1 ≤ 9223372036854775807:=by
  unfold rdI; split
  · simp
  · rename_i h; simp at h ⊢; omega
def rdB (bs:List Nat) (bad:Bool) (most:Int):List Nat × List Nat × Bool :=
  if (rdI bs bad most).2.2 = true ∨ (rdI bs bad most).2.1.length < (rdI bs bad most).1 then ([],(rdI bs bad most).2.1,true) else ((rdI bs bad most).2.1.take (rdI bs bad most).1,(rdI bs bad most).2.1.drop (rdI bs bad most).1,false)
theorem rdB_bad {bs:List Nat} {bad:Bool} {most:Int} (h:(rdI bs bad most).2.2 = true ∨ (rdI bs bad most).2.1.length < (rdI bs bad most).1):rdB bs bad most = ([],(rdI bs bad most).2.1,true):=by unfold rdB; rw [if_pos h]
theorem rdB_good {bs:List Nat} {bad:Bool} {most:Int} (h1:(rdI bs bad most).2.2 = false) (h2:¬ (rdI bs bad most).2.1.length < (rdI bs bad most).1):rdB bs bad most = ((rdI bs bad most).2.1.take (rdI bs bad most).1,(rdI bs bad most).2.1.drop (rdI bs bad most).1,false):=by
  unfold rdB; rw [if_neg (by rw [h1]; simp; omega)]
end Go.FM
namespace Go.FM
theorem rdU_len (bs:List Nat) (bad:Bool):(rdU bs bad).2.1.length ≤ bs.length:=by
  unfold rdU
  split
  · exact Nat.le_refl _
  · split
    · rename_i h
      obtain ⟨k,h1,_,_⟩:=uscan_sub _ _ _ h
      rw [h1]; simp
    · exact Nat.le_refl _
theorem rdI_len (bs:List Nat) (bad:Bool) (most:Int):(rdI bs bad most).2.1.length ≤ bs.length:=by
  unfold rdI; split <;> exact rdU_len bs bad
theorem rdU_small {bs:List Nat} (h:Small bs) (bad:Bool):Small (rdU bs bad).2.1:=by
  unfold rdU
  split
  · exact h
  · split
    · rename_i h1
      obtain ⟨k,h2,_,_⟩:=uscan_sub _ _ _ h1
      rw [h2]; exact h.drop k
    · exact h
theorem rdI_small {bs:List Nat} (h:Small bs) (bad:Bool) (most:Int):Small (rdI bs bad most).2.1:=by
  unfold rdI; split <;> exact rdU_small h bad
theorem rdB_small {bs:List Nat} (h:Small bs) (bad:Bool) (most:Int):Small (rdB bs bad most).1:=by
  unfold rdB; split
  · exact Small.nil
  · exact (rdI_small h bad most).take _
end Go.FM

set_option linter.unusedVariables false
set_option linter.unusedSimpArgs false
namespace Go.FM
open Go
def bytesE (m:List Nat):List Nat:=uenc m.length ++ m
def vidE (v:GViewID):List Nat:=uenc v.N ++ [(v.P % 256).toNat]
def itemE (x:GItem):List Nat:=[(x.From % 256).toNat] ++ bytesE x.M
def itemsE (l:List GItem):List Nat:=uenc l.length ++ l.flatMap itemE
def stateE (s:GState):List Nat:=vidE s.V ++ uenc (s.Floor % 18446744073709551616).toNat ++ itemsE s.Items
def statesE (l:List GState):List Nat:=uenc l.length ++ l.flatMap stateE
def msgsE (l:List (List Nat)):List Nat:=uenc l.length ++ l.flatMap bytesE
def formVI (v:GViewID):Bool:=formV v.N v.P
def okFrom (x:GItem):Bool:=decide (0 ≤ x.From∧x.From < 16)
def okItems (l:List GItem):Bool:=decide (l.length ≤ 4096) && l.all okFrom
def okState (s:GState):Bool:=sForm s && okItems s.Items
def okStates (l:List GState):Bool:=decide (l.length ≤ 4096) && l.all okState
def encV (p:List Nat) (v:GViewID):List Nat × Int:=if formVI v = true then (p ++ vidE v,0) else ([],3)
section
variable {H:Hp} {w:World} {L:List Res} {e n:Nat} {v:Value} {l l' m p q q2 u:List Nat} {b b2 b3 c:Bool} {i:Nat}
theorem St.relist (hs:St H w (row e 1 v n (l.map encB)::L)) (ok:RowOk 1 v n (l.map encB)) (h:l = l'):St H w (row e 1 v l'.length (l'.map encB)::L)∧RowOk 1 v l'.length (l'.map encB):=by
  subst h
  have:n = l.length:=by have:=ok.1; simpa using this.symm
  subst this
  exact ⟨hs,ok⟩
theorem encV_yes {x:GViewID} (h:formV x.N x.P = true):encV p x = (p ++ vidE x,0):=if_pos h
theorem encV_no {x:GViewID} (h:formV x.N x.P = false):encV p x = ([],3):=if_neg (by unfold formVI; rw [h]; decide)
theorem wr_bad {α:Type} {f:α → Bool} {l:List α} {x:α} (h:b2 = (b || !(c && (l.take i).all f))) (hx:l[i]? = some x) (h3:b3 = (b2 || !f x)):b3 = (b || !(c && (l.take (i + 1)).all f)):=by
  rw [take_succ' hx,List.all_append,h3,h]
  simp only [List.all_cons,List.all_nil,Bool.and_true]
  cases b <;> cases c <;> cases (l.take i).all f <;> cases f x <;> rfl
theorem wr_list {α:Type} {g:α → List Nat} {l:List α} {x:α} {gx:List Nat} (h:b2 = false → q2 = q ++ (u ++ (l.take i).flatMap g)) (hx:l[i]? = some x) (h2:b3 = false → b2 = false) (h3:b3 = false → gx = q2 ++ g x):b3 = false → gx = q ++ (u ++ (l.take (i + 1)).flatMap g):=by
  intro hb
  rw [h3 hb,h (h2 hb),take_succ' hx,List.flatMap_append]
  simp [List.append_assoc]
theorem wr_len {α:Type} {g:α → List Nat} {l:List α} {x:α} {k k2:Nat} (h:k2 ≤ k + (u ++ (l.take i).flatMap g).length) (hx:l[i]? = some x) {k3:Nat} (h3:k3 ≤ k2 + (g x).length):k3 ≤ k + (u ++ (l.take (i + 1)).flatMap g).length:=by
  rw [take_succ' hx,List.flatMap_append]
  simp only [List.length_append,List.flatMap_cons,List.flatMap_nil,List.append_nil] at h ⊢
  omega
theorem flat_le {α:Type} {g:α → List Nat} (l:List α) (i:Nat):((l.take i).flatMap g).length ≤ (l.flatMap g).length:=by
  conv => rhs; rw [← List.take_append_drop i l,List.flatMap_append,List.length_append]
  omega
theorem flat_at {α:Type} {g:α → List Nat} {l:List α} {x:α} (hx:l[i]? = some x):((l.take i).flatMap g).length + (g x).length ≤ (l.flatMap g).length:=by
  have:=flat_le (g:=g) l (i + 1)
  rw [take_succ' hx,List.flatMap_append] at this
  simpa using this
end
end Go.FM
namespace Go.FM
section
variable {p q:List Nat} {v:GViewID} {b:Bool}
theorem vid_bad1 (h:b = true):true = (b || !formVI v):=by rw [h]; rfl
theorem vid_bad2 (h:b = false):decide ((encV p v).2 ≠ 0) = (b || !formVI v):=by
  rw [h]; unfold encV; cases formVI v <;> simp
theorem vid_list (h:decide ((encV p v).2 ≠ 0) = false):(encV p v).1 = p ++ vidE v:=by
  unfold encV at h ⊢; cases hc:formVI v <;> rw [hc] at h <;> simp at h ⊢
theorem vid_len:(encV p v).1.length ≤ p.length + (vidE v).length:=by
  unfold encV; cases formVI v <;> simp
end
end Go.FM
namespace Go.FM
section
variable {q u q2 q3 q4 q5 q6 a1 a2 a3:List Nat} {b b0 b1 b2 b3 b4 b5 b6 c:Bool} {n:Nat} {x:GItem} {s:GState}
theorem wr_start {α:Type} {f:α → Bool} {l:List α} (h:b1 = (b0 || !true)) (h0:b0 = (b || !c)):b1 = (b || !(c && (l.take 0).all f)):=by
  rw [h,h0]; cases b <;> cases c <;> rfl
theorem wr_start2 {α:Type} {g:α → List Nat} {l:List α} (h:b1 = false → q2 = q ++ u):b1 = false → q2 = q ++ (u ++ (l.take 0).flatMap g):=by
  intro hb; rw [h hb]; simp
theorem wr_start3 {α:Type} {g:α → List Nat} {l:List α} {k k2:Nat} (h:k2 ≤ k + u.length):k2 ≤ k + (u ++ (l.take 0).flatMap g).length:=by simpa using h
theorem it_bad1 (h:b2 = true):true = (b2 || !okFrom x):=by rw [h]; rfl
theorem it_bad2 (h:b2 = false) (h2:x.From < 0):true = (b2 || !okFrom x):=by
  rw [h]; unfold okFrom; rw [decide_eq_false (by omega)]; rfl
theorem it_bad3 (h:b2 = false) (h2:¬ x.From < 0):decide ((16:Int) ≤ x.From) = (b2 || !okFrom x):=by
  rw [h]; unfold okFrom
  by_cases h3:16 ≤ x.From
  · rw [decide_eq_true h3,decide_eq_false (by omega)]; rfl
  · rw [decide_eq_false h3,decide_eq_true (by omega)]; rfl
theorem it_list:(q2 ++ [(x.From % 256).toNat]) ++ bytesE x.M = q2 ++ itemE x:=by unfold itemE; simp [List.append_assoc]
theorem itemE_len (x:GItem):(itemE x).length = 1 + (bytesE x.M).length:=by unfold itemE; rw [List.length_append]; rfl
theorem itemsE_len (l:List GItem):(itemsE l).length = (uenc l.length).length + (l.flatMap itemE).length:=by unfold itemsE; rw [List.length_append]
theorem stateE_len (s:GState):(stateE s).length = (vidE s.V).length + (uenc (s.Floor % 18446744073709551616).toNat).length + (itemsE s.Items).length:=by unfold stateE; rw [List.length_append,List.length_append]
theorem statesE_len (l:List GState):(statesE l).length = (uenc l.length).length + (l.flatMap stateE).length:=by unfold statesE; rw [List.length_append]
theorem sForm_vid (h:sForm s = true):formVI s.V = true:=by
  unfold formVI
  cases hf:formV s.V.N s.V.P with
  | true => rfl
  | false => rw [sForm_false (.inl hf)] at h; cases h
theorem st_bad (h3:b3 = (b2 || !sForm s)) (h4:b4 = (b3 || !formVI s.V)) (h5:b5 = (b4 || !true)) (h6:b6 = (b5 || !okItems s.Items)):b6 = (b2 || !okState s):=by
  rw [h6,h5,h4,h3]
  unfold okState
  cases hs:sForm s with
  | true => rw [sForm_vid hs]; cases b2 <;> cases okItems s.Items <;> rfl
  | false => cases b2 <;> cases formVI s.V <;> cases okItems s.Items <;> rfl
theorem or_left {a d:Bool} (h:a = (b || d)) (ha:a = false):b = false:=by rw [h] at ha; cases b <;> simp_all
theorem st_list (k4:b4 = (b3 || !formVI s.V)) (k5:b5 = (b4 || !true)) (k6:b6 = (b5 || !okItems s.Items)) (h4:b4 = false → q4 = q3 ++ a1) (h5:b5 = false → q5 = q4 ++ a2) (h6:b6 = false → q6 = q5 ++ a3):b6 = false → q6 = q3 ++ (a1 ++ a2 ++ a3):=by
  intro h
  have e5:=or_left k6 h
  have e4:=or_left k5 e5
  rw [h6 h,h5 e5,h4 e4]; simp [List.append_assoc]
end
end Go.FM
namespace Go.FM
theorem wr0t {b d:Bool} (h:b = true):true = (b || !d):=by rw [h]; rfl
theorem wr0f {α:Type} {b:Bool} {l:List α} {n:Nat} (h:b = false) (hn:l.length = n):decide ((4096:Int) < ((n:Nat):Int)) = (b || !decide (l.length ≤ 4096)):=by
  rw [h,hn]
  by_cases h3:n ≤ 4096
  · rw [decide_eq_true h3,decide_eq_false (by omega)]; rfl
  · rw [decide_eq_false h3,decide_eq_true (by omega)]; rfl
theorem st0t {b d:Bool} (h:b = true):true = (b || !d):=by rw [h]; rfl
theorem st0f {b d:Bool} (h:b = false):(!d) = (b || !d):=by rw [h]; rfl
end Go.FM

set_option linter.unusedVariables false
set_option linter.unusedSimpArgs false
namespace Go.FM
open Go
def BareP (f:GFrame):Prop :=
  (f.Kind = 1 → f.ID.N = 0∧f.ID.P = 0)∧(f.Kind ≠ 2 → f.Kind ≠ 5 → f.Set = 0)∧(f.Kind ≠ 1 → f.Cur.N = 0∧f.Cur.P = 0)∧(f.Kind ≠ 1 → f.Kind ≠ 4 → f.Prom.N = 0∧f.Prom.P = 0) ∧
  (f.Kind ≠ 3 → f.Kind ≠ 5 → f.States.length = 0)∧(f.Kind ≠ 6 → f.Kind ≠ 7 → f.Base = 0∧f.Ack = 0)∧(f.Kind ≠ 6 → f.Msgs.length = 0)∧(f.Kind ≠ 7 → f.Items.length = 0∧f.Safe = 0)
instance (f:GFrame):Decidable (BareP f):=by unfold BareP; exact inferInstance
def bareF (f:GFrame):Bool:=decide (BareP f)
theorem vid0 {v:GViewID}:v = GViewID.mk 0 0 ↔ (v.N = 0∧v.P = 0):=by
  obtain ⟨n,p⟩:=v
  simp
def frKindOk (f:GFrame):Bool :=
  if f.Kind = 1 then formVI f.Cur && formVI f.Prom
  else if f.Kind = 2 then true
  else if f.Kind = 3 then decide (f.States.length = 1) && okStates f.States
  else if f.Kind = 4 then formVI f.Prom
  else if f.Kind = 5 then okStates f.States
  else if f.Kind = 6 then decide (f.Msgs.length ≤ 4096)
  else okItems f.Items
def kindE (f:GFrame):List Nat :=
  if f.Kind = 1 then vidE f.Cur ++ vidE f.Prom
  else if f.Kind = 2 then uenc f.Set
  else if f.Kind = 3 then statesE f.States
  else if f.Kind = 4 then vidE f.Prom
  else if f.Kind = 5 then uenc f.Set ++ statesE f.States
  else if f.Kind = 6 then uenc f.Base ++ uenc f.Ack ++ msgsE f.Msgs
  else uenc f.Base ++ uenc f.Ack ++ uenc f.Safe ++ itemsE f.Items
def idOk (f:GFrame):Bool:=if f.Kind = 1 then true else formVI f.ID && decide (f.ID.N ≠ 0)
def idE (f:GFrame):List Nat:=if f.Kind = 1 then [] else vidE f.ID
def bodyOk (f:GFrame):Bool:=idOk f && frKindOk f
def bodyE (f:GFrame):List Nat:=[f.Kind,(f.From % 256).toNat] ++ idE f ++ kindE f
def headOk (f:GFrame):Bool:=decide (0 ≤ f.From∧f.From < 16∧1 ≤ f.Kind∧f.Kind ≤ 7)
def formC (f:GFrame):Bool:=headOk f && bareF f && bodyOk f
def encC (f:GFrame):List Nat × Int:=if formC f = true then (if 1048572 < (bodyE f).length then ([],2) else (seal_ (bodyE f),0)) else ([],3)
def bigF (f:GFrame):Nat:=(vidE f.ID).length + (vidE f.Cur).length + (vidE f.Prom).length + (statesE f.States).length + (msgsE f.Msgs).length + (itemsE f.Items).length
section
variable {f:GFrame} {b b2 c d x:Bool} {l l2 E e:List Nat}
theorem encC_no (h:formC f = false):encC f = ([],3):=if_neg (by rw [h]; decide)
theorem encC_long (h:formC f = true) (h2:1048572 < (bodyE f).length):encC f = ([],2):=by unfold encC; rw [if_pos h,if_pos h2]
theorem encC_yes (h:formC f = true) (h2:¬ 1048572 < (bodyE f).length):encC f = (seal_ (bodyE f),0):=by unfold encC; rw [if_pos h,if_neg h2]
theorem formC_head (h:¬ (0 ≤ f.From∧f.From < 16∧1 ≤ f.Kind∧f.Kind ≤ 7)):formC f = false:=by unfold formC headOk; rw [decide_eq_false h]; rfl
theorem formC_bare (h:bareF f = false):formC f = false:=by unfold formC; rw [h]; cases headOk f <;> rfl
theorem formC_body (h:bodyOk f = false):formC f = false:=by unfold formC; rw [h]; cases headOk f <;> cases bareF f <;> rfl
theorem formC_yes (h1:0 ≤ f.From∧f.From < 16∧1 ≤ f.Kind∧f.Kind ≤ 7) (h2:bareF f = true) (h3:bodyOk f = true):formC f = true:=by unfold formC headOk; rw [decide_eq_true h1,h2,h3]; rfl
theorem ch_call (h:b = !c) (k:b2 = (b || !d)):b2 = !(c && d):=by rw [k,h]; cases c <;> cases d <;> rfl
theorem ch_list (k:b2 = (b || !d)) (h:b = false → l = E) (h2:b2 = false → l2 = l ++ e):b2 = false → l2 = E ++ e:=fun hb => by rw [h2 hb,h (or_left k hb)]
theorem ch_app (h:b = false → l = E) (h2:l2 = l ++ e):b = false → l2 = E ++ e:=fun hb => by rw [h2,h hb]
theorem dec_not {p q:Prop} [Decidable p] [Decidable q] (h:p ↔ ¬ q):decide p = !decide q:=by rw [← decide_not]; exact decide_eq_decide.2 h
theorem msgsE_len (l:List (List Nat)):(msgsE l).length = (uenc l.length).length + (l.flatMap bytesE).length:=by unfold msgsE; rw [List.length_append]
end
end Go.FM
namespace Go.FM
section
variable {b c d x:Bool} {l E:List Nat}
theorem ch_or_ (h:b = !c) (hx:x = !d):(b || x) = !(c && d):=by rw [h,hx]; cases c <;> cases d <;> rfl
theorem ch_orq (h:b = false → l = E):(b || x) = false → l = E:=fun hb => h (by cases b <;> simp_all)
end
end Go.FM
namespace Go.FM
theorem bodyE_len (f:GFrame) (h1:(uenc f.Set).length ≤ 10) (h2:(uenc f.Base).length ≤ 10) (h3:(uenc f.Ack).length ≤ 10) (h4:(uenc f.Safe).length ≤ 10):(bodyE f).length ≤ 32 + bigF f:=by
  unfold bodyE
  rw [List.length_append,List.length_append]
  have e1:(idE f).length ≤ (vidE f.ID).length:=by unfold idE; split <;> simp
  have e2:(kindE f).length ≤ 30 + ((vidE f.Cur).length + (vidE f.Prom).length + (statesE f.States).length + (msgsE f.Msgs).length + (itemsE f.Items).length):=by
    unfold kindE
    repeat' split
    all_goals try simp only [List.length_append]
    all_goals omega
  have e3:([f.Kind,(f.From % 256).toNat]:List Nat).length = 2:=rfl
  unfold bigF
  omega
def sizeF (f:GFrame):Nat:=f.Msgs.length + f.Items.length + f.States.length + (f.Msgs.map List.length).sum + (f.Items.map fun x => x.M.length).sum + (f.States.map fun s => s.Items.length + (s.Items.map fun x => x.M.length).sum).sum
def greatF (f:GFrame):Bool:=decide (20000 < sizeF f)
theorem bytesE_len {m:List Nat} (h:m.length < 18446744073709551616):(bytesE m).length ≤ 10 + m.length:=by
  unfold bytesE; rw [List.length_append]; have:=uenc_len10 h; omega
theorem flat_msgs:∀ (l:List (List Nat)),(∀ m ∈ l,m.length < 18446744073709551616) → (l.flatMap bytesE).length ≤ 10 * l.length + (l.map List.length).sum
  | [],_ => by simp
  | m::l,h => by
    have h1:=flat_msgs l (fun x hx => h x (List.mem_cons_of_mem _ hx))
    have h2:=bytesE_len (h m List.mem_cons_self)
    simp only [List.flatMap_cons,List.length_append,List.map_cons,List.sum_cons,List.length_cons]
    omega
theorem flat_items:∀ (l:List GItem),(∀ x ∈ l,x.M.length < 18446744073709551616) → (l.flatMap itemE).length ≤ 11 * l.length + (l.map fun x => x.M.length).sum
  | [],_ => by simp
  | m::l,h => by
    have h1:=flat_items l (fun x hx => h x (List.mem_cons_of_mem _ hx))
    have h2:=bytesE_len (h m List.mem_cons_self)
    have h3:=itemE_len m
    simp only [List.flatMap_cons,List.length_append,List.map_cons,List.sum_cons,List.length_cons]
    omega
theorem itemsE_le {l:List GItem} (h:∀ x ∈ l,x.M.length < 18446744073709551616) (h2:l.length < 18446744073709551616):(itemsE l).length ≤ 10 + 11 * l.length + (l.map fun x => x.M.length).sum:=by
  rw [itemsE_len]; have:=flat_items l h; have:=uenc_len10 h2; omega
theorem vidE_le {v:GViewID} (h:v.N < 18446744073709551616):(vidE v).length ≤ 11:=by
  unfold vidE; rw [List.length_append]; have:=uenc_len10 h; simp; omega
theorem flat_states:∀ (l:List GState),(∀ s ∈ l,s.V.N < 18446744073709551616∧s.Items.length < 18446744073709551616∧∀ x ∈ s.Items,x.M.length < 18446744073709551616) →
    (l.flatMap stateE).length ≤ 31 * l.length + 11 * (l.map fun s => s.Items.length + (s.Items.map fun x => x.M.length).sum).sum
  | [],_ => by simp
  | m::l,h => by
    have h1:=flat_states l (fun x hx => h x (List.mem_cons_of_mem _ hx))
    obtain ⟨h2,h3,h4⟩:=h m List.mem_cons_self
    have h5:=stateE_len m
    have h6:=vidE_le h2
    have h7:=itemsE_le h4 h3
    have h8:=uenc_len10 (show (m.Floor % 18446744073709551616).toNat < 18446744073709551616 by omega)
    simp only [List.flatMap_cons,List.length_append,List.map_cons,List.sum_cons,List.length_cons]
    omega
structure FrB (f:GFrame):Prop where
  id:f.ID.N < 18446744073709551616
  cur:f.Cur.N < 18446744073709551616
  prom:f.Prom.N < 18446744073709551616
  msgs:∀ m ∈ f.Msgs,m.length < 18446744073709551616
  items:∀ x ∈ f.Items,x.M.length < 18446744073709551616
  states:∀ s ∈ f.States,s.V.N < 18446744073709551616∧s.Items.length < 18446744073709551616∧∀ x ∈ s.Items,x.M.length < 18446744073709551616
theorem big_size {f:GFrame} (h:FrB f) (h1:f.Msgs.length < 18446744073709551616) (h2:f.Items.length < 18446744073709551616) (h3:f.States.length < 18446744073709551616):bigF f ≤ 100 + 43 * sizeF f:=by
  have a1:=vidE_le h.id
  have a2:=vidE_le h.cur
  have a3:=vidE_le h.prom
  have a4:=flat_msgs _ h.msgs
  have a5:=itemsE_le h.items h2
  have a6:=flat_states _ h.states
  have a7:=msgsE_len f.Msgs
  have a8:=statesE_len f.States
  have a9:=uenc_len10 h1
  have a10:=uenc_len10 h3
  unfold bigF sizeF
  omega
theorem great_no {f:GFrame} (h:greatF f = false) (hb:FrB f) (h1:f.Msgs.length < 18446744073709551616) (h2:f.Items.length < 18446744073709551616) (h3:f.States.length < 18446744073709551616):bigF f ≤ 860100:=by
  have:=of_decide_eq_false h
  have:=big_size hb h1 h2 h3
  omega
end Go.FM
namespace Go.FM
theorem sForm_items {s:GState} (h:sForm s = true):s.Items.all okFrom = true:=by
  have h1:formV s.V.N s.V.P = true:=by
    cases hf:formV s.V.N s.V.P with
    | true => rfl
    | false => rw [sForm_false (.inl hf)] at h; cases h
  have h2:0 ≤ s.Floor∧s.Floor ≤ 1073741824∧(s.V.N = 0 → sEnd s ≤ 0):=by
    refine ⟨Int.not_lt.1 fun hn => ?_,Int.not_lt.1 fun hn => ?_,fun hz => Int.not_lt.1 fun hn => ?_⟩
    · rw [sForm_false (.inr (.inl hn))] at h; cases h
    · rw [sForm_false (.inr (.inr (.inl hn)))] at h; cases h
    · rw [sForm_false (.inr (.inr (.inr ⟨hz,hn⟩)))] at h; cases h
  rw [sForm_true h1 h2,all_good] at h
  exact h
theorem okState_eq (s:GState):okState s = (sForm s && decide (s.Items.length ≤ 4096)):=by
  unfold okState okItems
  cases h:sForm s with
  | true => rw [sForm_items h]; simp
  | false => rfl
theorem okItems_no {l:List GItem} {i:Nat} {x:GItem} (hx:l[i]? = some x) (h:okFrom x = false):okItems l = false:=by
  unfold okItems
  cases ha:l.all okFrom with
  | false => simp
  | true => have:=List.all_eq_true.1 ha x (List.mem_of_getElem? hx); rw [h] at this; cases this
theorem okItems_end {l:List GItem} {i:Nat} (h:∀ (j:Nat) (y:GItem),j < i → l[j]? = some y → okFrom y = true) (hi:l.length ≤ i):okItems l = decide (l.length ≤ 4096):=by
  unfold okItems
  rw [List.all_eq_true.2 fun y hy => ?_,Bool.and_true]
  obtain ⟨j,hj,rfl⟩:=List.mem_iff_getElem.1 hy
  exact h j _ (by omega) (List.getElem?_eq_getElem hj)
theorem okStates_no {l:List GState} {i:Nat} {x:GState} (hx:l[i]? = some x) (h:okState x = false):okStates l = false:=by
  unfold okStates
  cases ha:l.all okState with
  | false => simp
  | true => have:=List.all_eq_true.1 ha x (List.mem_of_getElem? hx); rw [h] at this; cases this
theorem okStates_end {l:List GState} {i:Nat} (h:∀ (j:Nat) (y:GState),j < i → l[j]? = some y → okState y = true) (hi:l.length ≤ i):okStates l = decide (l.length ≤ 4096):=by
  unfold okStates
  rw [List.all_eq_true.2 fun y hy => ?_,Bool.and_true]
  obtain ⟨j,hj,rfl⟩:=List.mem_iff_getElem.1 hy
  exact h j _ (by omega) (List.getElem?_eq_getElem hj)
theorem formC_all {f:GFrame}:formC f = true ↔ ((0 ≤ f.From∧f.From < 16∧1 ≤ f.Kind∧f.Kind ≤ 7)∧BareP f∧bodyOk f = true):=by
  unfold formC headOk bareF
  rw [Bool.and_eq_true,Bool.and_eq_true,decide_eq_true_iff,decide_eq_true_iff,and_assoc]
theorem body_iff {f:GFrame} (hb:BareP f) (h7:1 ≤ f.Kind∧f.Kind ≤ 7):bodyOk f = true ↔
    ((f.Kind ≠ 1 → formVI f.ID = true∧f.ID.N ≠ 0)∧formVI f.Cur = true∧formVI f.Prom = true∧(f.Kind = 3 → f.States.length = 1)∧okStates f.States = true∧okItems f.Items = true∧f.Msgs.length ≤ 4096):=by
  have z:∀ v:GViewID,v.N = 0∧v.P = 0 → formVI v = true:=fun v h => by unfold formVI formV; rw [h.1,h.2]; rfl
  obtain ⟨b1,b2,b3,b4,b5,b6,b7,b8⟩:=hb
  have zs:f.Kind ≠ 3 → f.Kind ≠ 5 → okStates f.States = true:=fun h3 h5 => by have:=List.eq_nil_of_length_eq_zero (b5 h3 h5); rw [this]; rfl
  have zi:f.Kind ≠ 7 → okItems f.Items = true:=fun h => by have:=List.eq_nil_of_length_eq_zero (b8 h).1; rw [this]; rfl
  have zc:f.Kind ≠ 1 → formVI f.Cur = true:=fun h => z _ (b3 h)
  have zp:f.Kind ≠ 1 → f.Kind ≠ 4 → formVI f.Prom = true:=fun h h2 => z _ (b4 h h2)
  obtain ⟨h1,h2⟩:=h7
  have hk:f.Kind = 1 ∨ f.Kind = 2 ∨ f.Kind = 3 ∨ f.Kind = 4 ∨ f.Kind = 5 ∨ f.Kind = 6 ∨ f.Kind = 7:=by omega
  unfold bodyOk idOk frKindOk
  rcases hk with hk | hk | hk | hk | hk | hk | hk
  all_goals simp [hk] at b7 b8 zs zi zc zp ⊢
  all_goals simp_all
end Go.FM
namespace Go.FM
section
variable {f:GFrame} {nS nM nI:Nat}
abbrev refAA (f:GFrame):Prop:=((((((f.Kind:Nat):Int):Int) < 1) ∨ ((7:Int) < ((f.Kind:Nat):Int))) ∨ ((f.From:Int) < 0)) ∨ ((15:Int) < f.From)
abbrev refB (f:GFrame):Prop:=(((((f.Kind:Nat):Int):Int) = 1)∧(¬ (f.ID = (GViewID.mk 0 0)))) ∨ (((((f.Kind:Nat):Int):Int) ≠ 1)∧(((((f.ID.N:Nat):Int):Int) = 0) ∨ (¬ ((formV f.ID.N f.ID.P) = true))))
abbrev refC (f:GFrame) (nS:Nat):Prop:=((((((((f.Kind:Nat):Int):Int) ≠ 2)∧((((f.Kind:Nat):Int):Int) ≠ 5))∧((((f.Set:Nat):Int):Int) ≠ 0)) ∨ (((((f.Kind:Nat):Int):Int) ≠ 1)∧(¬ (f.Cur = (GViewID.mk 0 0))))) ∨ ((((((f.Kind:Nat):Int):Int) ≠ 1)∧((((f.Kind:Nat):Int):Int) ≠ 4))∧(¬ (f.Prom = (GViewID.mk 0 0))))) ∨ ((((((f.Kind:Nat):Int):Int) ≠ 3)∧((((f.Kind:Nat):Int):Int) ≠ 5))∧((0:Int) < ((nS:Nat):Int)))
abbrev refD (f:GFrame) (nM nI:Nat):Prop:=(((((((f.Kind:Nat):Int):Int) ≠ 6)∧((((f.Kind:Nat):Int):Int) ≠ 7))∧(((((f.Base:Nat):Int):Int) ≠ 0) ∨ ((((f.Ack:Nat):Int):Int) ≠ 0))) ∨ (((((f.Kind:Nat):Int):Int) ≠ 6)∧((0:Int) < ((nM:Nat):Int)))) ∨ (((((f.Kind:Nat):Int):Int) ≠ 7)∧(((0:Int) < ((nI:Nat):Int)) ∨ ((((f.Safe:Nat):Int):Int) ≠ 0)))
theorem formC_false (h:¬ ((0 ≤ f.From∧f.From < 16∧1 ≤ f.Kind∧f.Kind ≤ 7)∧BareP f∧bodyOk f = true)):formC f = false:=by
  cases hc:formC f with
  | false => rfl
  | true => exact absurd (formC_all.1 hc) h
theorem form_no0 (h:refAA f):formC f = false:=formC_false fun ⟨h1,_⟩ => by unfold refAA at h; omega
theorem form_no1 (hA:¬ refAA f) (h:refB f):formC f = false:=formC_false fun ⟨h1,h2,h3⟩ => by
  have hk:=(body_iff h2 (by omega)).1 h3
  rcases h with ⟨h4,h5⟩ | ⟨h4,h5⟩
  · exact h5 (vid0.2 (h2.1 (by omega)))
  · have h6:=hk.1 (by omega)
    rcases h5 with h5 | h5
    · omega
    · exact h5 h6.1
theorem form_no2 (hS:f.States.length = nS) (hA:¬ refAA f) (hB:¬ refB f) (h:refC f nS):formC f = false:=formC_false fun ⟨h1,h2,h3⟩ => by
  obtain ⟨b1,b2,b3,b4,b5,_⟩:=h2
  rcases h with ((⟨h4,h5⟩ | ⟨h4,h5⟩) | ⟨h4,h5⟩) | ⟨h4,h5⟩
  · have:=b2 (by omega) (by omega); omega
  · exact h5 (vid0.2 (b3 (by omega)))
  · exact h5 (vid0.2 (b4 (by omega) (by omega)))
  · have:=b5 (by omega) (by omega); omega
theorem form_no3 (hS:f.States.length = nS) (hM:f.Msgs.length = nM) (hI:f.Items.length = nI) (hA:¬ refAA f) (hB:¬ refB f) (hC:¬ refC f nS) (h:refD f nM nI):formC f = false:=formC_false fun ⟨h1,h2,h3⟩ => by
  obtain ⟨b1,b2,b3,b4,b5,b6,b7,b8⟩:=h2
  rcases h with (⟨h4,h5⟩ | ⟨h4,h5⟩) | ⟨h4,h5⟩
  · have:=b6 (by omega) (by omega); omega
  · have:=b7 (by omega); omega
  · have:=b8 (by omega); omega
theorem form_end (hS:f.States.length = nS) (hM:f.Msgs.length = nM) (hI:f.Items.length = nI) (hA:¬ refAA f) (hB:¬ refB f) (hC:¬ refC f nS) (hD:¬ refD f nM nI):formC f = true ↔
    ((((((formV f.Cur.N f.Cur.P) = true)∧((formV f.Prom.N f.Prom.P) = true))∧(((((f.Kind:Nat):Int):Int) ≠ 3) ∨ ((((nS:Nat):Int):Int) = 1)))∧((okStates f.States) = true))∧((okItems f.Items) = true))∧((((nM:Nat):Int):Int) ≤ 4096):=by
  have hb:BareP f:=by
    refine ⟨fun h => ?_,fun h h2 => ?_,fun h => ?_,fun h h2 => ?_,fun h h2 => ?_,fun h h2 => ?_,fun h => ?_,fun h => ?_⟩
    · exact vid0.1 (Classical.byContradiction fun h5 => hB (.inl ⟨by omega,h5⟩))
    · exact Classical.byContradiction fun h5 => hC (.inl (.inl (.inl ⟨⟨by omega,by omega⟩,by omega⟩)))
    · exact vid0.1 (Classical.byContradiction fun h5 => hC (.inl (.inl (.inr ⟨by omega,h5⟩))))
    · exact vid0.1 (Classical.byContradiction fun h5 => hC (.inl (.inr ⟨⟨by omega,by omega⟩,h5⟩)))
    · exact Classical.byContradiction fun h5 => hC (.inr ⟨⟨by omega,by omega⟩,by omega⟩)
    · unfold refD at hD; omega
    · unfold refD at hD; omega
    · unfold refD at hD; omega
  have h1:0 ≤ f.From∧f.From < 16∧1 ≤ f.Kind∧f.Kind ≤ 7:=by unfold refAA at hA; omega
  have hid:f.Kind ≠ 1 → formVI f.ID = true∧f.ID.N ≠ 0:=fun h => ⟨Classical.byContradiction fun h5 => hB (.inr ⟨by omega,.inr h5⟩),fun h5 => hB (.inr ⟨by omega,.inl (by omega)⟩)⟩
  rw [formC_all,body_iff hb (by omega)]
  constructor
  · rintro ⟨_,_,_,k1,k2,k3,k4,k5,k6⟩
    exact ⟨⟨⟨⟨⟨k1,k2⟩,by omega⟩,k4⟩,k5⟩,by omega⟩
  · rintro ⟨⟨⟨⟨⟨k1,k2⟩,k3⟩,k4⟩,k5⟩,k6⟩
    exact ⟨h1,hb,hid,k1,k2,fun h => by omega,k4,k5,by omega⟩
end
end Go.FM
namespace Go.FM
section
variable {a b:GFrame} {nA nB:Nat}
theorem frame_eq:a = b ↔ (a.Kind = b.Kind∧a.From = b.From∧a.ID = b.ID∧a.Set = b.Set∧a.Cur = b.Cur∧a.Prom = b.Prom∧a.States = b.States∧a.Base = b.Base∧a.Msgs = b.Msgs∧a.Items = b.Items∧a.Ack = b.Ack∧a.Safe = b.Safe):=by
  constructor
  · rintro rfl; simp
  · rintro ⟨h1,h2,h3,h4,h5,h6,h7,h8,h9,h10,h11,h12⟩
    cases a; cases b; simp_all
abbrev sameN (a b:GFrame) (nA nB:Nat):Prop:=(((((((((((((a.Kind:Nat):Int):Int) ≠ ((b.Kind:Nat):Int)) ∨ ((a.From:Int) ≠ b.From)) ∨ (¬ (a.ID = b.ID))) ∨ ((((a.Set:Nat):Int):Int) ≠ ((b.Set:Nat):Int))) ∨ (¬ (a.Cur = b.Cur))) ∨ (¬ (a.Prom = b.Prom))) ∨ ((((a.Base:Nat):Int):Int) ≠ ((b.Base:Nat):Int))) ∨ ((((a.Ack:Nat):Int):Int) ≠ ((b.Ack:Nat):Int))) ∨ ((((a.Safe:Nat):Int):Int) ≠ ((b.Safe:Nat):Int))) ∨ ((((nA:Nat):Int):Int) ≠ ((nB:Nat):Int)))
theorem same_no (h1:a.Msgs.length = nA) (h2:b.Msgs.length = nB) (h:sameN a b nA nB):decide (a = b) = false:=decide_eq_false fun e => by
  subst e
  rcases h with ((((((((h | h) | h) | h) | h) | h) | h) | h) | h) | h
  all_goals first | exact h rfl | omega
theorem same_msg {i:Nat} {x y:List Nat} (hx:a.Msgs[i]? = some x) (hy:b.Msgs[i]? = some y) (h:¬ bstr x = bstr y):decide (a = b) = false:=decide_eq_false fun e => by
  subst e
  rw [hx] at hy
  cases hy
  exact h rfl
theorem same_end {i:Nat} (h1:a.Msgs.length = nA) (h2:b.Msgs.length = nB) (h:¬ sameN a b nA nB) (ht:a.Msgs.take i = b.Msgs.take i) (hi:nA ≤ i):a = b ↔ (a.States = b.States∧a.Items = b.Items):=by
  have h9:nA = nB:=Classical.byContradiction fun e => h (.inr (by omega))
  have hm:a.Msgs = b.Msgs:=by rwa [List.take_of_length_le (by omega),List.take_of_length_le (by omega)] at ht
  simp only [sameN,not_or,Classical.not_not] at h
  obtain ⟨⟨⟨⟨⟨⟨⟨⟨⟨k1,k2⟩,k3⟩,k4⟩,k5⟩,k6⟩,k7⟩,k8⟩,k9⟩,k10⟩:=h
  constructor
  · rintro rfl; exact ⟨rfl,rfl⟩
  · rintro ⟨h7,h8⟩
    exact frame_eq.2 ⟨by omega,k2,k3,by omega,k5,k6,h7,by omega,hm,h8,by omega,by omega⟩
end
end Go.FM

set_option linter.unusedVariables false
set_option linter.unusedSimpArgs false
namespace Go.FM
open Go
abbrev Rd_ (α:Type):=List Nat → Bool → α × List Nat × Bool
structure Rdr {α:Type} (R:Rd_ α) (E:α → List Nat) (G:α → Prop):Prop where
  bad:∀ bs,(R bs true).2.2 = true
  sm:∀ bs b,Small bs → Small (R bs b).2.1
  snd:∀ bs x r,Small bs → R bs false = (x,r,false) → G x∧bs = E x ++ r
  cmp:∀ x r,G x → R (E x ++ r) false = (x,r,false)
def rseq {α β:Type} (R1:Rd_ α) (R2:Rd_ β):Rd_ (α × β):=fun bs b => (((R1 bs b).1,(R2 (R1 bs b).2.1 (R1 bs b).2.2).1),(R2 (R1 bs b).2.1 (R1 bs b).2.2).2)
def rmap {α β:Type} (f:α → β) (R:Rd_ α):Rd_ β:=fun bs b => (f (R bs b).1,(R bs b).2)
def rlist {α:Type} (R:Rd_ α):Nat → Rd_ (List α)
  | 0,bs,bad => ([],bs,bad)
  | n + 1,bs,bad => if bad = true then ([],bs,bad) else ((R bs bad).1::(rlist R n (R bs bad).2.1 (R bs bad).2.2).1,(rlist R n (R bs bad).2.1 (R bs bad).2.2).2)
def rcount {α:Type} (R:Rd_ α) (most:Int):Rd_ (List α):=fun bs b => rlist R (rdI bs b most).1 (rdI bs b most).2.1 (rdI bs b most).2.2
section
variable {α β:Type} {R1:Rd_ α} {R2:Rd_ β} {E1:α → List Nat} {E2:β → List Nat} {G1:α → Prop} {G2:β → Prop}
theorem triple {γ δ ε:Type} {t:γ × δ × ε} {x:γ} {r:δ} {b:ε}:t = (x,r,b) ↔ (t.1 = x∧t.2.1 = r∧t.2.2 = b):=by
  obtain ⟨a,c,d⟩:=t; simp
theorem Rdr.ok (h:Rdr R1 E1 G1) {bs:List Nat} {b:Bool} (hb:(R1 bs b).2.2 = false):b = false:=by
  cases b with
  | false => rfl
  | true => rw [h.bad] at hb; cases hb
theorem Rdr.seq (h1:Rdr R1 E1 G1) (h2:Rdr R2 E2 G2):Rdr (rseq R1 R2) (fun p => E1 p.1 ++ E2 p.2) (fun p => G1 p.1∧G2 p.2) where
  bad bs:=by
    show (R2 (R1 bs true).2.1 (R1 bs true).2.2).2.2 = true
    rw [h1.bad]; exact h2.bad _
  sm bs b hs:=h2.sm _ _ (h1.sm _ _ hs)
  snd bs p r hs he:=by
    obtain ⟨x,y⟩:=p
    have e:=triple.1 he
    have e1:((R1 bs false).1,(R2 (R1 bs false).2.1 (R1 bs false).2.2).1) = (x,y):=e.1
    injection e1 with e2 e3
    have eb:(R2 (R1 bs false).2.1 (R1 bs false).2.2).2.2 = false:=e.2.2
    have er:(R2 (R1 bs false).2.1 (R1 bs false).2.2).2.1 = r:=e.2.1
    have hb:=h2.ok eb
    rw [hb] at e3 er eb
    obtain ⟨g1,s1⟩:=h1.snd bs x _ hs (triple.2 ⟨e2,rfl,hb⟩)
    obtain ⟨g2,s2⟩:=h2.snd _ y r (h1.sm _ _ hs) (triple.2 ⟨e3,er,eb⟩)
    exact ⟨⟨g1,g2⟩,by rw [s1,s2,List.append_assoc]⟩
  cmp p r hg:=by
    show rseq R1 R2 ((E1 p.1 ++ E2 p.2) ++ r) false = _
    unfold rseq
    rw [List.append_assoc,h1.cmp _ _ hg.1]
    simp only []
    rw [h2.cmp _ _ hg.2]
theorem Rdr.map {f:α → β} (h:Rdr R1 E1 G1) (hE:∀ x,G1 x → E2 (f x) = E1 x∧G2 (f x)) (hs:∀ y,G2 y → ∃ x,f x = y∧G1 x):Rdr (rmap f R1) E2 G2 where
  bad bs:=h.bad bs
  sm bs b hs:=h.sm bs b hs
  snd bs y r hsm he:=by
    have e:=triple.1 he
    obtain ⟨g,s⟩:=h.snd bs (R1 bs false).1 r hsm (triple.2 ⟨rfl,e.2.1,e.2.2⟩)
    have e1:f (R1 bs false).1 = y:=e.1
    rw [← e1]
    exact ⟨(hE _ g).2,by rw [(hE _ g).1]; exact s⟩
  cmp y r hg:=by
    obtain ⟨x,rfl,gx⟩:=hs y hg
    unfold rmap
    rw [(hE _ gx).1,h.cmp _ _ gx]
theorem rlist_sm (h:Rdr R1 E1 G1):∀ (n:Nat) (bs:List Nat) (b:Bool),Small bs → Small (rlist R1 n bs b).2.1
  | 0,bs,b,hs => hs
  | n + 1,bs,b,hs => by
    unfold rlist
    split
    · exact hs
    · exact rlist_sm h n _ _ (h.sm _ _ hs)
theorem rlist_bad (h:Rdr R1 E1 G1):∀ (n:Nat) (bs:List Nat),(rlist R1 n bs true).2.2 = true
  | 0,bs => rfl
  | n + 1,bs => by unfold rlist; rw [if_pos rfl]
theorem rlist_snd (h:Rdr R1 E1 G1):∀ (n:Nat) (bs:List Nat) (l:List α) (r:List Nat),Small bs → rlist R1 n bs false = (l,r,false) → l.length = n∧(∀ x ∈ l,G1 x)∧bs = l.flatMap E1 ++ r
  | 0,bs,l,r,hs,he => by
    have e:=triple.1 he
    have e1:([]:List α) = l:=e.1
    have e2:bs = r:=e.2.1
    subst e1 e2
    exact ⟨rfl,fun x hx => absurd hx List.not_mem_nil,rfl⟩
  | n + 1,bs,l,r,hs,he => by
    unfold rlist at he
    rw [if_neg (by decide)] at he
    have e:=triple.1 he
    have e1:(R1 bs false).1::(rlist R1 n (R1 bs false).2.1 (R1 bs false).2.2).1 = l:=e.1
    have e2:(rlist R1 n (R1 bs false).2.1 (R1 bs false).2.2).2.1 = r:=e.2.1
    have e3:(rlist R1 n (R1 bs false).2.1 (R1 bs false).2.2).2.2 = false:=e.2.2
    have hb:(R1 bs false).2.2 = false:=by
      cases hc:(R1 bs false).2.2 with
      | false => rfl
      | true => rw [hc,rlist_bad h] at e3; cases e3
    rw [hb] at e1 e2 e3
    obtain ⟨g,s⟩:=h.snd bs (R1 bs false).1 (R1 bs false).2.1 hs (triple.2 ⟨rfl,rfl,hb⟩)
    obtain ⟨k1,k2,k3⟩:=rlist_snd h n _ _ r (h.sm _ _ hs) (triple.2 ⟨rfl,e2,e3⟩)
    subst e1
    refine ⟨by rw [List.length_cons,k1],fun x hx => ?_,?_⟩
    · rcases List.mem_cons.1 hx with rfl | hx
      · exact g
      · exact k2 x hx
    · rw [List.flatMap_cons,List.append_assoc,← k3]; exact s
theorem rlist_cmp (h:Rdr R1 E1 G1):∀ (l:List α) (r:List Nat),(∀ x ∈ l,G1 x) → rlist R1 l.length (l.flatMap E1 ++ r) false = (l,r,false)
  | [],r,_ => rfl
  | x::l,r,hg => by
    rw [List.length_cons,rlist,if_neg (by decide),List.flatMap_cons,List.append_assoc,h.cmp x _ (hg x List.mem_cons_self)]
    simp only []
    rw [rlist_cmp h l r fun y hy => hg y (List.mem_cons_of_mem _ hy)]
theorem rdU_sound {bs r:List Nat} {n:Nat} (hs:Small bs) (h:rdU bs false = (n,r,false)):bs = uenc n ++ r:=by
  by_cases hx:∃ i,i < bs.length∧bs.getD i 0 < 128
  · obtain ⟨i,⟨hi,hb⟩,hmin⟩:∃ i,(i < bs.length∧bs.getD i 0 < 128)∧∀ j,j < i → ¬ (j < bs.length∧bs.getD j 0 < 128):=by
      obtain ⟨i0,h0⟩:=hx
      induction i0 using Nat.strongRecOn with
      | _ i0 ih =>
        by_cases hm:∃ j,j < i0∧(j < bs.length∧bs.getD j 0 < 128)
        · obtain ⟨j,hj,hp⟩:=hm; exact ih j hj hp
        · exact ⟨i0,h0,fun j hj hp => hm ⟨j,hj,hp⟩⟩
    have hp:∀ b ∈ bs.take i,128 ≤ b:=fun b hb' => by
      obtain ⟨j,hj,rfl⟩:=List.mem_iff_getElem.1 hb'
      rw [List.length_take] at hj
      have:=hmin j (by omega)
      rw [List.getElem_take]
      have h2:¬ bs.getD j 0 < 128:=fun h => this ⟨by omega,h⟩
      rw [List.getD_eq_getElem?_getD,List.getElem?_eq_getElem (by omega)] at h2
      simpa using h2
    by_cases h9:i < 10
    · have he:=uscan_end hs hi h9 hp hb
      split at he
      · rename_i hu
        rw [rdU_some he] at h
        have e:=triple.1 h
        have e1:pv (bs.take (i + 1)) % 18446744073709551616 = n:=e.1
        have e2:bs.drop (i + 1) = r:=e.2.1
        rw [← e1,← e2,hu,List.take_append_drop]
      · rw [rdU_none he] at h
        have e:=(triple.1 h).2.2
        cases e
    · have:uscan 0 0 bs = none:=uscan_ten (by omega) fun b hb' => hp b (by
        have:bs.take 10 = (bs.take i).take 10:=by rw [List.take_take,Nat.min_eq_left (by omega)]
        rw [this] at hb'
        exact List.mem_of_mem_take hb')
      rw [rdU_none this] at h
      cases (triple.1 h).2.2
  · have:uscan 0 0 bs = none:=uscan_noend fun b hb => by
      obtain ⟨j,hj,rfl⟩:=List.mem_iff_getElem.1 hb
      have h2:¬ bs.getD j 0 < 128:=fun h => hx ⟨j,hj,h⟩
      rw [List.getD_eq_getElem?_getD,List.getElem?_eq_getElem hj] at h2
      simpa using h2
    rw [rdU_none this] at h
    cases (triple.1 h).2.2
theorem rdrU:Rdr rdU uenc (· < 18446744073709551616) where
  bad bs:=rfl
  sm bs b hs:=rdU_small hs b
  snd bs x r hs he:=⟨by have:=rdU_lt bs false; rw [he] at this; exact this,rdU_sound hs he⟩
  cmp x r hg:=rdU_uenc hg r
theorem rdrI (most:Int) (h0:0 ≤ most):Rdr (fun bs b => rdI bs b most) uenc (fun n => (n:Int) ≤ most∧n < 18446744073709551616) where
  bad bs:=by rw [rdI_bad (.inl rfl)]
  sm bs b hs:=rdI_small hs b most
  snd bs x r hs he:=by
    have he:rdI bs false most = (x,r,false):=he
    by_cases hc:(rdU bs false).2.2 = true ∨ most < 0 ∨ most < ((rdU bs false).1:Int)
    · rw [rdI_bad hc] at he; cases (triple.1 he).2.2
    · have h1:(rdU bs false).2.2 = false:=by cases hq:(rdU bs false).2.2 with | false => rfl | true => exact absurd (.inl hq) hc
      rw [rdI_good h1 (fun h => hc (.inr (.inl h))) (fun h => hc (.inr (.inr h)))] at he
      have e:=triple.1 he
      have e1:(rdU bs false).1 = x:=e.1
      have e2:(rdU bs false).2.1 = r:=e.2.1
      obtain ⟨g,s⟩:=rdrU.snd bs x r hs (triple.2 ⟨e1,e2,h1⟩)
      exact ⟨⟨by rw [← e1]; exact Int.not_lt.1 fun h => hc (.inr (.inr h)),g⟩,s⟩
  cmp x r hg:=by
    show rdI (uenc x ++ r) false most = _
    have h:=rdU_uenc hg.2 r
    rw [rdI_good (by rw [h]) (by omega) (by rw [h]; simp only []; omega),h]
theorem rdrB (most:Int) (h0:0 ≤ most) (h1:most ≤ 9223372036854775807):Rdr (fun bs b => rdB bs b most) bytesE (fun m => (m.length:Int) ≤ most) where
  bad bs:=by rw [rdB_bad (.inl ((rdrI most h0).bad bs))]
  sm bs b hs:=by
    show Small (rdB bs b most).2.1
    unfold rdB
    split
    · exact rdI_small hs b most
    · exact (rdI_small hs b most).drop _
  snd bs m r hs he:=by
    have he:rdB bs false most = (m,r,false):=he
    by_cases hc:(rdI bs false most).2.2 = true ∨ (rdI bs false most).2.1.length < (rdI bs false most).1
    · rw [rdB_bad hc] at he; cases (triple.1 he).2.2
    · have h2:(rdI bs false most).2.2 = false:=by cases hq:(rdI bs false most).2.2 with | false => rfl | true => exact absurd (.inl hq) hc
      have h3:¬ (rdI bs false most).2.1.length < (rdI bs false most).1:=fun h => hc (.inr h)
      rw [rdB_good h2 h3] at he
      have e:=triple.1 he
      have e1:(rdI bs false most).2.1.take (rdI bs false most).1 = m:=e.1
      have e2:(rdI bs false most).2.1.drop (rdI bs false most).1 = r:=e.2.1
      obtain ⟨g,s⟩:=(rdrI most h0).snd bs (rdI bs false most).1 (rdI bs false most).2.1 hs (triple.2 ⟨rfl,rfl,h2⟩)
      have hl:m.length = (rdI bs false most).1:=by rw [← e1,List.length_take]; omega
      refine ⟨by rw [hl]; exact g.1,?_⟩
      unfold bytesE
      rw [hl,List.append_assoc,← e1,← e2,List.take_append_drop]; exact s
  cmp m r hg:=by
    show rdB (bytesE m ++ r) false most = _
    have h:=(rdrI most h0).cmp m.length (m ++ r) ⟨hg,by omega⟩
    have h:rdI (uenc m.length ++ (m ++ r)) false most = (m.length,m ++ r,false):=h
    unfold bytesE
    rw [List.append_assoc,rdB_good (by rw [h]) (by rw [h]; simp),h]
    simp
theorem Rdr.count (h:Rdr R1 E1 G1) (most:Int) (h0:0 ≤ most) (hm:most ≤ 9223372036854775807):Rdr (rcount R1 most) (fun l => uenc l.length ++ l.flatMap E1) (fun l => (l.length:Int) ≤ most∧∀ x ∈ l,G1 x) where
  bad bs:=by
    show (rlist R1 (rdI bs true most).1 (rdI bs true most).2.1 (rdI bs true most).2.2).2.2 = true
    rw [(rdrI most h0).bad bs]; exact rlist_bad h _ _
  sm bs b hs:=rlist_sm h _ _ _ (rdI_small hs b most)
  snd bs l r hs he:=by
    have he:rlist R1 (rdI bs false most).1 (rdI bs false most).2.1 (rdI bs false most).2.2 = (l,r,false):=he
    have hb:(rdI bs false most).2.2 = false:=by
      cases hc:(rdI bs false most).2.2 with
      | false => rfl
      | true => rw [hc] at he; have:=(triple.1 he).2.2; rw [rlist_bad h] at this; cases this
    rw [hb] at he
    obtain ⟨g,s⟩:=(rdrI most h0).snd bs (rdI bs false most).1 (rdI bs false most).2.1 hs (triple.2 ⟨rfl,rfl,hb⟩)
    obtain ⟨k1,k2,k3⟩:=rlist_snd h _ _ l r (rdI_small hs false most) he
    refine ⟨⟨by rw [k1]; exact g.1,k2⟩,?_⟩
    rw [k1,List.append_assoc,← k3]; exact s
  cmp l r hg:=by
    show rlist R1 (rdI ((uenc l.length ++ l.flatMap E1) ++ r) false most).1 _ _ = _
    have h1:=(rdrI most h0).cmp l.length (l.flatMap E1 ++ r) ⟨hg.1,by omega⟩
    have h1:rdI (uenc l.length ++ (l.flatMap E1 ++ r)) false most = (l.length,l.flatMap E1 ++ r,false):=h1
    rw [List.append_assoc,h1]
    exact rlist_cmp h l r hg.2
end
end Go.FM

set_option linter.unusedVariables false
set_option linter.unusedSimpArgs false
namespace Go.FM
open Go
def rguard {α:Type} (g:α → Bool) (z:α → α) (R:Rd_ α):Rd_ α:=fun bs b => if (R bs b).2.2 = false∧g (R bs b).1 = true then R bs b else (z (R bs b).1,(R bs b).2.1,true)
theorem Rdr.guard {α:Type} {R:Rd_ α} {E:α → List Nat} {G:α → Prop} (h:Rdr R E G) (g:α → Bool) (z:α → α):Rdr (rguard g z R) E (fun x => G x∧g x = true) where
  bad bs:=by unfold rguard; rw [if_neg (by rw [h.bad]; simp)]
  sm bs b hs:=by unfold rguard; split <;> exact h.sm bs b hs
  snd bs x r hs he:=by
    unfold rguard at he
    split at he
    · rename_i hc
      obtain ⟨k1,k2⟩:=h.snd bs x r hs he
      exact ⟨⟨k1,by rw [he] at hc; exact hc.2⟩,k2⟩
    · cases (triple.1 he).2.2
  cmp x r hg:=by
    unfold rguard
    rw [if_pos (by rw [h.cmp x r hg.1]; exact ⟨rfl,hg.2⟩),h.cmp x r hg.1]
def rI (most:Int):Rd_ Nat:=fun bs b => rdI bs b most
def rB:Rd_ (List Nat):=fun bs b => rdB bs b 1048576
def rdV:Rd_ GViewID:=rmap (fun p => GViewID.mk p.1 (p.2:Int)) (rseq rdU (rI 15))
def rdVok:Rd_ GViewID:=rguard formVI (fun _ => ⟨0,0⟩) rdV
def rdItem:Rd_ GItem:=rmap (fun p => GItem.mk (p.1:Int) p.2) (rseq (rI 15) rB)
def rdItems:Rd_ (List GItem):=rcount rdItem 4096
def rdMsgs:Rd_ (List (List Nat)):=rcount rB 4096
def mkSt (p:GViewID × Nat × List GItem):GState:=GState.mk p.1 (p.2.1:Int) p.2.2
def rdStR:Rd_ GState:=rmap mkSt (rseq rdVok (rseq (rI 1073741824) rdItems))
def rdStC:Rd_ GState:=rguard sForm id rdStR
def VB (v:GViewID):Prop:=v.N < 18446744073709551616∧formVI v = true
def IB_ (l:List GItem):Prop:=okItems l = true∧∀ x ∈ l,x.M.length ≤ 1048576
theorem rdrV:Rdr rdV vidE (fun v => v.N < 18446744073709551616∧0 ≤ v.P∧v.P ≤ 15) :=
  (rdrU.seq (rdrI 15 (by decide))).map (fun p hp => by
    obtain ⟨n,q⟩:=p
    obtain ⟨h1,h2,h3⟩:=hp
    refine ⟨?_,h1,by simp,h2⟩
    show uenc n ++ [((q:Int) % 256).toNat] = uenc n ++ uenc q
    have h2:(q:Int) ≤ 15:=h2
    rw [uenc_one (n:=q) (by omega),show ((q:Int) % 256).toNat = q by omega]) (fun v hv => by
    obtain ⟨n,p⟩:=v
    obtain ⟨h1,h2,h3⟩:=hv
    refine ⟨(n,p.toNat),?_,h1,?_,?_⟩
    · show GViewID.mk n ((p.toNat:Nat):Int) = _
      rw [Int.toNat_of_nonneg h2]
    · show ((p.toNat:Nat):Int) ≤ 15; have h3:p ≤ 15:=h3; have h2:0 ≤ p:=h2; omega
    · show p.toNat < _; have h3:p ≤ 15:=h3; omega)
theorem formVI_in {v:GViewID} (h:formVI v = true):0 ≤ v.P∧v.P ≤ 15:=by
  have:=of_decide_eq_true h; omega
theorem rdrVok:Rdr rdVok vidE VB:=by
  have:=rdrV.guard formVI (fun _ => ⟨0,0⟩)
  exact ⟨this.bad,this.sm,fun bs x r hs he => by
    obtain ⟨⟨⟨h1,h2⟩,h3⟩,h4⟩:=this.snd bs x r hs he
    exact ⟨⟨h1,h3⟩,h4⟩,fun x r hg => this.cmp x r ⟨⟨hg.1,formVI_in hg.2⟩,hg.2⟩⟩
theorem rdrItem:Rdr rdItem itemE (fun x => okFrom x = true∧x.M.length ≤ 1048576) :=
  ((rdrI 15 (by decide)).seq (rdrB 1048576 (by decide) (by decide))).map (fun p hp => by
    obtain ⟨n,q⟩:=p
    obtain ⟨⟨h1,h2⟩,h3⟩:=hp
    have h1:(n:Int) ≤ 15:=h1
    have h3:(q.length:Int) ≤ 1048576:=h3
    refine ⟨?_,decide_eq_true ?_,?_⟩
    · show [((n:Int) % 256).toNat] ++ bytesE q = uenc n ++ bytesE q
      rw [uenc_one (n:=n) (by omega),show ((n:Int) % 256).toNat = n by omega]
    · show 0 ≤ (n:Int)∧(n:Int) < 16; omega
    · show q.length ≤ 1048576; omega) (fun x hx => by
    obtain ⟨p,m⟩:=x
    have h1:0 ≤ p∧p < 16:=of_decide_eq_true hx.1
    have h2:m.length ≤ 1048576:=hx.2
    refine ⟨(p.toNat,m),?_,⟨?_,?_⟩,?_⟩
    · show GItem.mk ((p.toNat:Nat):Int) m = _
      rw [Int.toNat_of_nonneg h1.1]
    · show ((p.toNat:Nat):Int) ≤ 15; omega
    · show p.toNat < _; omega
    · show (m.length:Int) ≤ 1048576; omega)
theorem rdrItems:Rdr rdItems itemsE IB_:=by
  have:=rdrItem.count 4096 (by decide) (by decide)
  refine ⟨this.bad,this.sm,fun bs l r hs he => ?_,fun l r hg => this.cmp l r ?_⟩
  · obtain ⟨⟨h1,h2⟩,h3⟩:=this.snd bs l r hs he
    exact ⟨⟨by unfold okItems; rw [decide_eq_true (by omega),List.all_eq_true.2 fun x hx => (h2 x hx).1]; rfl,fun x hx => (h2 x hx).2⟩,h3⟩
  · have h1:=hg.1
    unfold okItems at h1
    rw [Bool.and_eq_true] at h1
    have h2:=of_decide_eq_true h1.1
    exact ⟨by omega,fun x hx => ⟨List.all_eq_true.1 h1.2 x hx,hg.2 x hx⟩⟩
theorem rdrMsgs:Rdr rdMsgs msgsE (fun l => l.length ≤ 4096∧∀ m ∈ l,m.length ≤ 1048576):=by
  have:=(rdrB 1048576 (by decide) (by decide)).count 4096 (by decide) (by decide)
  refine ⟨this.bad,this.sm,fun bs l r hs he => ?_,fun l r hg => this.cmp l r ⟨by have:=hg.1; omega,fun m hm => by have:=hg.2 m hm; omega⟩⟩
  obtain ⟨⟨h1,h2⟩,h3⟩:=this.snd bs l r hs he
  exact ⟨⟨by omega,fun m hm => by have:=h2 m hm; omega⟩,h3⟩
def SB (s:GState):Prop:=VB s.V∧0 ≤ s.Floor∧s.Floor ≤ 1073741824∧IB_ s.Items
theorem rdrStR:Rdr rdStR stateE SB :=
  (rdrVok.seq ((rdrI 1073741824 (by decide)).seq rdrItems)).map (fun p hp => by
    obtain ⟨v,n,l⟩:=p
    obtain ⟨h1,⟨h2,h3⟩,h4⟩:=hp
    have h2:(n:Int) ≤ 1073741824:=h2
    refine ⟨?_,h1,?_,h2,h4⟩
    · show vidE v ++ uenc ((n:Int) % 18446744073709551616).toNat ++ itemsE l = vidE v ++ (uenc n ++ itemsE l)
      rw [List.append_assoc,show ((n:Int) % 18446744073709551616).toNat = n by omega]
    · show 0 ≤ (n:Int); omega) (fun s hs => by
    obtain ⟨v,n,l⟩:=s
    obtain ⟨h1,h2,h3,h4⟩:=hs
    have h2:0 ≤ n:=h2
    have h3:n ≤ 1073741824:=h3
    refine ⟨(v,n.toNat,l),?_,h1,⟨?_,?_⟩,h4⟩
    · show GState.mk v ((n.toNat:Nat):Int) l = _
      rw [Int.toNat_of_nonneg h2]
    · show ((n.toNat:Nat):Int) ≤ 1073741824; omega
    · show n.toNat < _; omega)
theorem rdrStC:Rdr rdStC stateE (fun s => SB s∧sForm s = true):=rdrStR.guard sForm id
def SsB (l:List GState):Prop:=okStates l = true∧∀ s ∈ l,s.V.N < 18446744073709551616∧∀ x ∈ s.Items,x.M.length ≤ 1048576
theorem sForm_floor {s:GState} (h:sForm s = true):0 ≤ s.Floor∧s.Floor ≤ 1073741824 :=
  ⟨Int.not_lt.1 (fun hn => (by rw [sForm_false (.inr (.inl hn))] at h; cases h)),Int.not_lt.1 (fun hn => (by rw [sForm_false (.inr (.inr (.inl hn)))] at h; cases h))⟩
theorem states_in {l:List GState} (h:SsB l):(l.length:Int) ≤ 4096∧∀ s ∈ l,SB s∧sForm s = true:=by
  have h1:=h.1
  unfold okStates at h1
  rw [Bool.and_eq_true] at h1
  have h2:=of_decide_eq_true h1.1
  refine ⟨by omega,fun s hs => ?_⟩
  have h3:=List.all_eq_true.1 h1.2 s hs
  unfold okState at h3
  rw [Bool.and_eq_true] at h3
  have h4:=sForm_floor h3.1
  exact ⟨⟨⟨(h.2 s hs).1,sForm_vid h3.1⟩,h4.1,h4.2,h3.2,(h.2 s hs).2⟩,h3.1⟩
theorem rdrStates:Rdr (rcount rdStC 4096) statesE SsB:=by
  have:=rdrStC.count 4096 (by decide) (by decide)
  refine ⟨this.bad,this.sm,fun bs l r hs he => ?_,fun l r hg => this.cmp l r (states_in hg)⟩
  obtain ⟨⟨h1,h2⟩,h3⟩:=this.snd bs l r hs he
  refine ⟨⟨?_,fun s hs => ⟨(h2 s hs).1.1.1,(h2 s hs).1.2.2.2.2⟩⟩,h3⟩
  unfold okStates
  rw [decide_eq_true (by omega),List.all_eq_true.2 fun s hs => ?_]
  · rfl
  · unfold okState; rw [(h2 s hs).2,(h2 s hs).1.2.2.2.1]; rfl
def rdVC (bs:List Nat) (b:Bool):(GViewID × Bool) × List Nat × Bool:=(if (rdV bs b).2.2 = false∧formVI (rdV bs b).1 = true then ((rdV bs b).1,true) else (⟨0,0⟩,false),(rdV bs b).2)
def stC (bs:List Nat) (b:Bool):(GState × Bool) × List Nat × Bool :=
  ((mkSt ((rdVC bs b).1.1,(rdI (rdVC bs b).2.1 (rdVC bs b).2.2 1073741824).1,(rdItems (rdI (rdVC bs b).2.1 (rdVC bs b).2.2 1073741824).2.1 (rdI (rdVC bs b).2.1 (rdVC bs b).2.2 1073741824).2.2).1),
    (rdVC bs b).1.2 && sForm (mkSt ((rdVC bs b).1.1,(rdI (rdVC bs b).2.1 (rdVC bs b).2.2 1073741824).1,(rdItems (rdI (rdVC bs b).2.1 (rdVC bs b).2.2 1073741824).2.1 (rdI (rdVC bs b).2.1 (rdVC bs b).2.2 1073741824).2.2).1))),
   (rdItems (rdI (rdVC bs b).2.1 (rdVC bs b).2.2 1073741824).2.1 (rdI (rdVC bs b).2.1 (rdVC bs b).2.2 1073741824).2.2).2)
def stsC:Nat → List Nat → Bool → (List GState × Bool) × List Nat × Bool
  | 0,bs,b => (([],true),bs,b)
  | n + 1,bs,b => if b = true then (([],true),bs,b) else if (stC bs b).1.2 = true then (((stC bs b).1.1::(stsC n (stC bs b).2.1 (stC bs b).2.2).1.1,(stsC n (stC bs b).2.1 (stC bs b).2.2).1.2),(stsC n (stC bs b).2.1 (stC bs b).2.2).2) else (([],false),(stC bs b).2)
def statesC (bs:List Nat) (b:Bool):(List GState × Bool) × List Nat × Bool :=
  (if (stsC (rdI bs b 4096).1 (rdI bs b 4096).2.1 (rdI bs b 4096).2.2).1.2 = true then (stsC (rdI bs b 4096).1 (rdI bs b 4096).2.1 (rdI bs b 4096).2.2).1 else ([],false),(stsC (rdI bs b 4096).1 (rdI bs b 4096).2.1 (rdI bs b 4096).2.2).2)
def Agree {α:Type} (t:(α × Bool) × List Nat × Bool) (u:α × List Nat × Bool):Prop:=(t.1.2 = true∧t.2.2 = false → u = (t.1.1,t.2.1,false))∧(u.2.2 = false → t.1.2 = true∧t.2.2 = false)
theorem vc_agree (bs:List Nat) (b:Bool):Agree (rdVC bs b) (rdVok bs b):=by
  unfold Agree rdVC rdVok rguard
  by_cases h:(rdV bs b).2.2 = false∧formVI (rdV bs b).1 = true
  · rw [if_pos h,if_pos h]
    exact ⟨fun _ => triple.2 ⟨rfl,rfl,h.1⟩,fun _ => ⟨rfl,h.1⟩⟩
  · rw [if_neg h,if_neg h]
    exact ⟨fun h1 => Bool.noConfusion (show false = true from h1.1),fun h1 => Bool.noConfusion (show true = false from h1)⟩
theorem rdI_ok {bs:List Nat} {b:Bool} {most:Int} (h:(rdI bs b most).2.2 = false):b = false:=by
  cases b with
  | false => rfl
  | true => rw [rdI_bad (.inl rfl)] at h; cases h
theorem stC_agree (bs:List Nat) (b:Bool):Agree (stC bs b) (rdStC bs b):=by
  have hv:=vc_agree bs b
  have key:∀ (v:(GViewID × Bool) × List Nat × Bool),v = rdVC bs b → (rdStR bs b) = (mkSt ((rdVok bs b).1,(rdI (rdVok bs b).2.1 (rdVok bs b).2.2 1073741824).1,(rdItems (rdI (rdVok bs b).2.1 (rdVok bs b).2.2 1073741824).2.1 (rdI (rdVok bs b).2.1 (rdVok bs b).2.2 1073741824).2.2).1),(rdItems (rdI (rdVok bs b).2.1 (rdVok bs b).2.2 1073741824).2.1 (rdI (rdVok bs b).2.1 (rdVok bs b).2.2 1073741824).2.2).2):=fun v _ => rfl
  have hR:=key _ rfl
  unfold Agree
  constructor
  · rintro ⟨h1,h2⟩
    have h1':((rdVC bs b).1.2 && sForm _) = true:=h1
    rw [Bool.and_eq_true] at h1'
    have hb2:(rdI (rdVC bs b).2.1 (rdVC bs b).2.2 1073741824).2.2 = false:=rdrItems.ok h2
    have hb1:=rdI_ok hb2
    have hu:=hv.1 ⟨h1'.1,hb1⟩
    rw [hu] at hR
    simp only [] at hR
    have e1:(rdStR bs b) = ((stC bs b).1.1,(stC bs b).2.1,false):=by
      have h2':=h2
      unfold stC at h2' ⊢
      rw [hb1] at h2' ⊢
      rw [hR]
      exact triple.2 ⟨rfl,rfl,h2'⟩
    unfold rdStC rguard
    rw [if_pos (by rw [e1]; exact ⟨rfl,h1'.2⟩),e1]
  · intro h
    unfold rdStC rguard at h
    split at h
    · rename_i hc
      have h3:(rdItems (rdI (rdVok bs b).2.1 (rdVok bs b).2.2 1073741824).2.1 (rdI (rdVok bs b).2.1 (rdVok bs b).2.2 1073741824).2.2).2.2 = false:=by have:=hc.1; rw [hR] at this; exact this
      have h4:=rdI_ok (rdrItems.ok h3)
      obtain ⟨k1,k2⟩:=hv.2 h4
      have hu:=hv.1 ⟨k1,k2⟩
      rw [hu] at hR
      simp only [] at hR
      have e1:(rdStR bs b) = ((stC bs b).1.1,(stC bs b).2):=by
        rw [hR]
        unfold stC
        rw [k2]
      rw [e1] at hc
      refine ⟨?_,hc.1⟩
      show ((rdVC bs b).1.2 && sForm (stC bs b).1.1) = true
      rw [k1,hc.2]; rfl
    · cases h
theorem sts_agree:∀ (n:Nat) (bs:List Nat) (b:Bool),Agree (stsC n bs b) (rlist rdStC n bs b)
  | 0,bs,b => ⟨fun h => triple.2 ⟨rfl,rfl,h.2⟩,fun h => ⟨rfl,h⟩⟩
  | n + 1,bs,b => by
    have hs:=stC_agree bs b
    unfold Agree stsC rlist
    cases hb:b with
    | true =>
      rw [if_pos rfl,if_pos rfl]
      exact ⟨fun h => Bool.noConfusion (show true = false from h.2),fun h => Bool.noConfusion (show true = false from h)⟩
    | false =>
      rw [hb] at hs
      rw [if_neg (show ¬ (false = true) from fun h => Bool.noConfusion h),if_neg (show ¬ (false = true) from fun h => Bool.noConfusion h)]
      by_cases hc:(stC bs false).1.2 = true
      · rw [if_pos hc]
        have ih:=sts_agree n (stC bs false).2.1 (stC bs false).2.2
        constructor
        · rintro ⟨h1,h2⟩
          have h3:(stC bs false).2.2 = false:=by
            cases hq:(stC bs false).2.2 with
            | false => rfl
            | true =>
              simp only [] at h2
              rw [hq] at h2
              cases n <;> simp [stsC] at h2
          have hu:=hs.1 ⟨hc,h3⟩
          have h4:=ih.1 ⟨h1,h2⟩
          rw [hu]
          simp only []
          rw [h3] at h4 ⊢
          rw [h4]
        · intro h
          have h3:(rdStC bs false).2.2 = false:=by
            cases hq:(rdStC bs false).2.2 with
            | false => rfl
            | true => simp only [] at h; rw [hq,rlist_bad rdrStC] at h; cases h
          obtain ⟨_,h4⟩:=hs.2 h3
          have hu:=hs.1 ⟨hc,h4⟩
          rw [hu] at h
          simp only [] at h
          have ih2:=ih
          rw [h4] at ih2
          have h5:=ih2.2 h
          rw [h4]; exact h5
      · rw [if_neg hc]
        constructor
        · rintro ⟨h1,_⟩; cases h1
        · intro h
          have h3:(rdStC bs false).2.2 = false:=by
            cases hq:(rdStC bs false).2.2 with
            | false => rfl
            | true => simp only [] at h; rw [hq,rlist_bad rdrStC] at h; cases h
          exact absurd (hs.2 h3).1 hc
theorem states_agree (bs:List Nat) (b:Bool):Agree (statesC bs b) (rcount rdStC 4096 bs b):=by
  have:=sts_agree (rdI bs b 4096).1 (rdI bs b 4096).2.1 (rdI bs b 4096).2.2
  unfold Agree statesC rcount
  constructor
  · rintro ⟨h1,h2⟩
    by_cases hc:(stsC (rdI bs b 4096).1 (rdI bs b 4096).2.1 (rdI bs b 4096).2.2).1.2 = true
    · rw [if_pos hc]; exact this.1 ⟨hc,h2⟩
    · rw [if_neg hc] at h1; cases h1
  · intro h
    obtain ⟨h1,h2⟩:=this.2 h
    rw [if_pos h1]; exact ⟨h1,h2⟩
end Go.FM

set_option linter.unusedVariables false
set_option linter.unusedSimpArgs false
namespace Go.FM
open Go
def zF:GFrame:=⟨0,0,⟨0,0⟩,0,⟨0,0⟩,⟨0,0⟩,[],0,[],[],0,0⟩
structure FB (f:GFrame):Prop where
  id:f.ID.N < 18446744073709551616
  cur:f.Cur.N < 18446744073709551616
  prom:f.Prom.N < 18446744073709551616
  set:f.Set < 65536
  base:f.Base < 18446744073709551616
  ack:f.Ack < 18446744073709551616
  safe:f.Safe < 18446744073709551616
  msgs:∀ m ∈ f.Msgs,m.length ≤ 1048576
  items:∀ x ∈ f.Items,x.M.length ≤ 1048576
  states:∀ s ∈ f.States,s.V.N < 18446744073709551616∧∀ x ∈ s.Items,x.M.length ≤ 1048576
def finC (f:GFrame) (ok fine:Bool) (r:List Nat × Bool):GFrame × Int :=
  if ok = true∧fine = true∧r.2 = false∧r.1 = []∧(f.Kind = 3 → f.States.length = 1)∧(f.Kind ≠ 1 → f.ID.N ≠ 0) then (f,0) else (zF,3)
def fr1 (F:Nat) (c p:GViewID):GFrame:=⟨1,F,⟨0,0⟩,0,c,p,[],0,[],[],0,0⟩
def fr2 (F:Nat) (i:GViewID) (s:Nat):GFrame:=⟨2,F,i,s,⟨0,0⟩,⟨0,0⟩,[],0,[],[],0,0⟩
def fr3 (F:Nat) (i:GViewID) (l:List GState):GFrame:=⟨3,F,i,0,⟨0,0⟩,⟨0,0⟩,l,0,[],[],0,0⟩
def fr4 (F:Nat) (i p:GViewID):GFrame:=⟨4,F,i,0,⟨0,0⟩,p,[],0,[],[],0,0⟩
def fr5 (F:Nat) (i:GViewID) (s:Nat) (l:List GState):GFrame:=⟨5,F,i,s,⟨0,0⟩,⟨0,0⟩,l,0,[],[],0,0⟩
def fr6 (F:Nat) (i:GViewID) (b a:Nat) (l:List (List Nat)):GFrame:=⟨6,F,i,0,⟨0,0⟩,⟨0,0⟩,[],b,l,[],a,0⟩
def fr7 (F:Nat) (i:GViewID) (b a s:Nat) (l:List GItem):GFrame:=⟨7,F,i,0,⟨0,0⟩,⟨0,0⟩,[],b,[],l,a,s⟩
def dec1 (F:Nat) (c:(GViewID × Bool) × List Nat × Bool) (p:(GViewID × Bool) × List Nat × Bool):GFrame × Int:=finC (fr1 F c.1.1 p.1.1) c.1.2 p.1.2 p.2
def decK (K F:Nat) (i:(GViewID × Bool) × List Nat × Bool):GFrame × Int :=
  if K = 2 then finC (fr2 F i.1.1 (rdI i.2.1 i.2.2 65535).1) i.1.2 true (rdI i.2.1 i.2.2 65535).2
  else if K = 3 then finC (fr3 F i.1.1 (statesC i.2.1 i.2.2).1.1) i.1.2 (statesC i.2.1 i.2.2).1.2 (statesC i.2.1 i.2.2).2
  else if K = 4 then finC (fr4 F i.1.1 (rdVC i.2.1 i.2.2).1.1) i.1.2 (rdVC i.2.1 i.2.2).1.2 (rdVC i.2.1 i.2.2).2
  else if K = 5 then finC (fr5 F i.1.1 (rdI i.2.1 i.2.2 65535).1 (statesC (rdI i.2.1 i.2.2 65535).2.1 (rdI i.2.1 i.2.2 65535).2.2).1.1) i.1.2 (statesC (rdI i.2.1 i.2.2 65535).2.1 (rdI i.2.1 i.2.2 65535).2.2).1.2 (statesC (rdI i.2.1 i.2.2 65535).2.1 (rdI i.2.1 i.2.2 65535).2.2).2
  else if K = 6 then finC (fr6 F i.1.1 (rseq rdU (rseq rdU rdMsgs) i.2.1 i.2.2).1.1 (rseq rdU (rseq rdU rdMsgs) i.2.1 i.2.2).1.2.1 (rseq rdU (rseq rdU rdMsgs) i.2.1 i.2.2).1.2.2) i.1.2 true (rseq rdU (rseq rdU rdMsgs) i.2.1 i.2.2).2
  else if K = 7 then finC (fr7 F i.1.1 (rseq rdU (rseq rdU (rseq rdU rdItems)) i.2.1 i.2.2).1.1 (rseq rdU (rseq rdU (rseq rdU rdItems)) i.2.1 i.2.2).1.2.1 (rseq rdU (rseq rdU (rseq rdU rdItems)) i.2.1 i.2.2).1.2.2.1 (rseq rdU (rseq rdU (rseq rdU rdItems)) i.2.1 i.2.2).1.2.2.2) i.1.2 true (rseq rdU (rseq rdU (rseq rdU rdItems)) i.2.1 i.2.2).2
  else (zF,3)
def decF (K:Nat) (f:Nat × List Nat × Bool):GFrame × Int:=if K = 1 then dec1 f.1 (rdVC f.2.1 f.2.2) (rdVC (rdVC f.2.1 f.2.2).2.1 (rdVC f.2.1 f.2.2).2.2) else decK K f.1 (rdVC f.2.1 f.2.2)
def decB (k:Nat × List Nat × Bool):GFrame × Int:=decF k.1 (rdI k.2.1 k.2.2 15)
def decP (p:List Nat):GFrame × Int:=decB (rdI p false 255)
section
variable {f:GFrame} {v w:GViewID} {r:List Nat}
theorem vc_cmp (h:VB v) (r:List Nat):rdVC (vidE v ++ r) false = ((v,true),r,false):=by
  have h1:rdV (vidE v ++ r) false = (v,r,false):=rdrV.cmp v r ⟨h.1,formVI_in h.2⟩
  unfold rdVC
  rw [h1,if_pos ⟨rfl,h.2⟩]
theorem statesC_cmp {l:List GState} (h:SsB l) (r:List Nat):statesC (statesE l ++ r) false = ((l,true),r,false):=by
  have h1:=rdrStates.cmp l r h
  have ha:=states_agree (statesE l ++ r) false
  obtain ⟨h2,h3⟩:=ha.2 (by rw [h1])
  have h4:=ha.1 ⟨h2,h3⟩
  rw [h1] at h4
  generalize statesC (statesE l ++ r) false = t at h2 h3 h4 ⊢
  obtain ⟨⟨a,b⟩,c,d⟩:=t
  have e:=triple.1 h4
  have e1:l = a:=e.1
  have e2:r = c:=e.2.1
  have e3:b = true:=h2
  have e4:d = false:=h3
  rw [e1,e2,e3,e4]
theorem head_cmp (hk:f.Kind < 128) (h0:0 ≤ f.From∧f.From < 16) (r:List Nat):rdI ([f.Kind,(f.From % 256).toNat] ++ r) false 255 = (f.Kind,[(f.From % 256).toNat] ++ r,false)∧rdI ([(f.From % 256).toNat] ++ r) false 15 = (f.From.toNat,r,false):=by
  constructor
  · have:=(rdrI 255 (by decide)).cmp f.Kind ([(f.From % 256).toNat] ++ r) ⟨by omega,by omega⟩
    rw [uenc_one hk] at this
    exact this
  · have:=(rdrI 15 (by decide)).cmp f.From.toNat r ⟨by omega,by omega⟩
    rw [uenc_one (show f.From.toNat < 128 by omega)] at this
    rw [show (f.From % 256).toNat = f.From.toNat by omega]
    exact this
theorem frame_is {K F S B A Sf:Nat} {i c p:GViewID} {st:List GState} {m:List (List Nat)} {it:List GItem} (h1:f.Kind = K) (h2:f.From = (F:Int)) (h3:f.ID = i) (h4:f.Set = S) (h5:f.Cur = c) (h6:f.Prom = p) (h7:f.States = st) (h8:f.Base = B) (h9:f.Msgs = m) (h10:f.Items = it) (h11:f.Ack = A) (h12:f.Safe = Sf):f = ⟨K,F,i,S,c,p,st,B,m,it,A,Sf⟩ :=
  frame_eq.2 ⟨h1,h2,h3,h4,h5,h6,h7,h8,h9,h10,h11,h12⟩
theorem nil_of {α:Type} {l:List α} (h:l.length = 0):l = []:=List.eq_nil_of_length_eq_zero h
theorem finC_yes {ok fine:Bool} {r:List Nat × Bool} (h1:ok = true) (h2:fine = true) (h3:r = ([],false)) (h4:f.Kind = 3 → f.States.length = 1) (h5:f.Kind ≠ 1 → f.ID.N ≠ 0):finC f ok fine r = (f,0):=if_pos ⟨h1,h2,by rw [h3],by rw [h3],h4,h5⟩
theorem decP_cmp (hf:formC f = true) (hb:FB f):decP (bodyE f) = (f,0):=by
  obtain ⟨h0,hbare,hbody⟩:=formC_all.1 hf
  have hall:=(body_iff hbare (by omega)).1 hbody
  obtain ⟨k1,k2,k3,k4,k5,k6,k7⟩:=hall
  obtain ⟨b1,b2,b3,b4,b5,b6,b7,b8⟩:=hbare
  have hh:=head_cmp (f:=f) (by omega) (by omega) (idE f ++ kindE f)
  unfold decP decB bodyE
  rw [List.append_assoc,hh.1]
  simp only []
  rw [hh.2]
  unfold decF
  have hF:f.From = ((f.From.toNat:Nat):Int):=by omega
  have hS:SsB f.States:=⟨k5,hb.states⟩
  have hI:IB_ f.Items:=⟨k6,hb.items⟩
  have hM:f.Msgs.length ≤ 4096∧∀ m ∈ f.Msgs,m.length ≤ 1048576:=⟨k7,hb.msgs⟩
  by_cases hk1:f.Kind = 1
  · rw [if_pos hk1]
    simp only []
    have he:idE f ++ kindE f = vidE f.Cur ++ (vidE f.Prom ++ []):=by unfold idE kindE; rw [if_pos hk1,if_pos hk1]; simp
    rw [he,vc_cmp ⟨hb.cur,k2⟩]
    simp only []
    rw [vc_cmp ⟨hb.prom,k3⟩]
    have hfr:f = fr1 f.From.toNat f.Cur f.Prom:=frame_is hk1 hF (vid0.2 (b1 hk1)) (b2 (by omega) (by omega)) rfl rfl (nil_of (b5 (by omega) (by omega))) (b6 (by omega) (by omega)).1 (nil_of (b7 (by omega))) (nil_of (b8 (by omega)).1) (b6 (by omega) (by omega)).2 (b8 (by omega)).2
    unfold dec1
    simp only []
    rw [← hfr]
    exact finC_yes rfl rfl rfl (fun h => by omega) (fun h => absurd hk1 h)
  · rw [if_neg hk1]
    obtain ⟨i1,i2⟩:=k1 hk1
    have hid:VB f.ID:=⟨hb.id,i1⟩
    have he:idE f ++ kindE f = vidE f.ID ++ kindE f:=by unfold idE; rw [if_neg hk1]
    rw [he,vc_cmp hid]
    simp only []
    have hn:f.Kind ≠ 1 → f.ID.N ≠ 0:=fun _ => i2
    unfold decK
    simp only []
    by_cases hk2:f.Kind = 2
    · have he2:kindE f = uenc f.Set ++ []:=by unfold kindE; rw [if_neg hk1,if_pos hk2]; simp
      rw [if_pos hk2,he2]
      have hc:rdI (uenc f.Set ++ []) false 65535 = (f.Set,[],false):=(rdrI 65535 (by decide)).cmp f.Set [] ⟨by have:=hb.set; omega,by have:=hb.set; omega⟩
      rw [hc]
      simp only []
      have hfr:f = fr2 f.From.toNat f.ID f.Set:=frame_is hk2 hF rfl rfl (vid0.2 (b3 hk1)) (vid0.2 (b4 hk1 (by omega))) (nil_of (b5 (by omega) (by omega))) (b6 (by omega) (by omega)).1 (nil_of (b7 (by omega))) (nil_of (b8 (by omega)).1) (b6 (by omega) (by omega)).2 (b8 (by omega)).2
      rw [← hfr]
      exact finC_yes rfl rfl rfl k4 hn
    · rw [if_neg hk2]
      by_cases hk3:f.Kind = 3
      · have he2:kindE f = statesE f.States ++ []:=by unfold kindE; rw [if_neg hk1,if_neg hk2,if_pos hk3]; simp
        rw [if_pos hk3,he2,statesC_cmp hS]
        simp only []
        have hfr:f = fr3 f.From.toNat f.ID f.States:=frame_is hk3 hF rfl (b2 (by omega) (by omega)) (vid0.2 (b3 hk1)) (vid0.2 (b4 hk1 (by omega))) rfl (b6 (by omega) (by omega)).1 (nil_of (b7 (by omega))) (nil_of (b8 (by omega)).1) (b6 (by omega) (by omega)).2 (b8 (by omega)).2
        rw [← hfr]
        exact finC_yes rfl rfl rfl k4 hn
      · rw [if_neg hk3]
        by_cases hk4:f.Kind = 4
        · have he2:kindE f = vidE f.Prom ++ []:=by unfold kindE; rw [if_neg hk1,if_neg hk2,if_neg hk3,if_pos hk4]; simp
          rw [if_pos hk4,he2,vc_cmp ⟨hb.prom,k3⟩]
          simp only []
          have hfr:f = fr4 f.From.toNat f.ID f.Prom:=frame_is hk4 hF rfl (b2 (by omega) (by omega)) (vid0.2 (b3 hk1)) rfl (nil_of (b5 (by omega) (by omega))) (b6 (by omega) (by omega)).1 (nil_of (b7 (by omega))) (nil_of (b8 (by omega)).1) (b6 (by omega) (by omega)).2 (b8 (by omega)).2
          rw [← hfr]
          exact finC_yes rfl rfl rfl k4 hn
        · rw [if_neg hk4]
          by_cases hk5:f.Kind = 5
          · have he2:kindE f = uenc f.Set ++ (statesE f.States ++ []):=by unfold kindE; rw [if_neg hk1,if_neg hk2,if_neg hk3,if_neg hk4,if_pos hk5]; simp
            rw [if_pos hk5,he2]
            have hc:∀ r,rdI (uenc f.Set ++ r) false 65535 = (f.Set,r,false):=fun r => (rdrI 65535 (by decide)).cmp f.Set r ⟨by have:=hb.set; omega,by have:=hb.set; omega⟩
            rw [hc]
            simp only []
            rw [statesC_cmp hS]
            simp only []
            have hfr:f = fr5 f.From.toNat f.ID f.Set f.States:=frame_is hk5 hF rfl rfl (vid0.2 (b3 hk1)) (vid0.2 (b4 hk1 (by omega))) rfl (b6 (by omega) (by omega)).1 (nil_of (b7 (by omega))) (nil_of (b8 (by omega)).1) (b6 (by omega) (by omega)).2 (b8 (by omega)).2
            rw [← hfr]
            exact finC_yes rfl rfl rfl k4 hn
          · rw [if_neg hk5]
            by_cases hk6:f.Kind = 6
            · have he2:kindE f = (uenc f.Base ++ (uenc f.Ack ++ msgsE f.Msgs)) ++ []:=by unfold kindE; rw [if_neg hk1,if_neg hk2,if_neg hk3,if_neg hk4,if_neg hk5,if_pos hk6]; simp
              rw [if_pos hk6,he2]
              have hc:=(rdrU.seq (rdrU.seq rdrMsgs)).cmp (f.Base,f.Ack,f.Msgs) [] ⟨hb.base,hb.ack,hM⟩
              simp only [] at hc
              rw [hc]
              simp only []
              have hfr:f = fr6 f.From.toNat f.ID f.Base f.Ack f.Msgs:=frame_is hk6 hF rfl (b2 (by omega) (by omega)) (vid0.2 (b3 hk1)) (vid0.2 (b4 hk1 (by omega))) (nil_of (b5 (by omega) (by omega))) rfl rfl (nil_of (b8 (by omega)).1) rfl (b8 (by omega)).2
              rw [← hfr]
              exact finC_yes rfl rfl rfl k4 hn
            · have hk7:f.Kind = 7:=by omega
              have he2:kindE f = (uenc f.Base ++ (uenc f.Ack ++ (uenc f.Safe ++ itemsE f.Items))) ++ []:=by unfold kindE; rw [if_neg hk1,if_neg hk2,if_neg hk3,if_neg hk4,if_neg hk5,if_neg hk6]; simp
              rw [if_neg hk6,if_pos hk7,he2]
              have hc:=(rdrU.seq (rdrU.seq (rdrU.seq rdrItems))).cmp (f.Base,f.Ack,f.Safe,f.Items) [] ⟨hb.base,hb.ack,hb.safe,hI⟩
              simp only [] at hc
              rw [hc]
              simp only []
              have hfr:f = fr7 f.From.toNat f.ID f.Base f.Ack f.Safe f.Items:=frame_is hk7 hF rfl (b2 (by omega) (by omega)) (vid0.2 (b3 hk1)) (vid0.2 (b4 hk1 (by omega))) (nil_of (b5 (by omega) (by omega))) rfl (nil_of (b7 (by omega))) rfl rfl rfl
              rw [← hfr]
              exact finC_yes rfl rfl rfl k4 hn
end
end Go.FM

set_option linter.unusedVariables false
set_option linter.unusedSimpArgs false
namespace Go.FM
open Go
section
variable {p bs:List Nat} {b:Bool}
end
end Go.FM

set_option linter.unusedVariables false
set_option linter.unusedSimpArgs false
namespace Go.FM
open Go
theorem body_inj {f g:GFrame} (hf:formC f = true) (hg:formC g = true) (bf:FB f) (bg:FB g) (h:bodyE f = bodyE g):f = g:=by
  have h1:=decP_cmp hf bf
  have h2:=decP_cmp hg bg
  rw [h,h2] at h1
  injection h1 with h1 _
  exact h1.symm
def decA (b:List Nat):GFrame × Int:=if 1048576 < b.length then (zF,2) else if (openL b).2 = 0 then decP (openL b).1 else (zF,(openL b).2)
theorem decA_long {b:List Nat} (h:1048576 < b.length):decA b = (zF,2):=if_pos h
theorem decA_open {b:List Nat} (h:¬ 1048576 < b.length) (h2:(openL b).2 ≠ 0):decA b = (zF,(openL b).2):=by unfold decA; rw [if_neg h,if_neg h2]
theorem decA_read {b:List Nat} (h:¬ 1048576 < b.length) (h2:(openL b).2 = 0):decA b = decP (openL b).1:=by unfold decA; rw [if_neg h,if_pos h2]
end Go.FM
