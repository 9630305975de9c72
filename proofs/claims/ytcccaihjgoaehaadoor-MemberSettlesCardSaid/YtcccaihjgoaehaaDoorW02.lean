/- Steps of the proofs over the functions of this seat, printed by a program (gen.py) and checked by Lean. -/
import Derived.Test.YtcccaihjgoaehaaDoorRows
import Derived.Test.YtcccaihjgoaehaaDoorW00
import Derived.Test.YtcccaihjgoaehaaDoorW01
set_option linter.unusedVariables false
set_option linter.unusedSimpArgs false
set_option maxRecDepth 100000
namespace Go.Proofs.YtcccaihjgoaehaaDoor
open Go Go.FM Go.Proofs Go.ChangeShapes Go.WideShapes Go.ChangeAt Go.RowKit
theorem own:ownKnob Tryd.prog.godebug = none:=by kernel_rfl
theorem laidOut:laidOutB Tryd.prog = true:=by kernel_rfl
theorem of_laid {W:World} (h:laidMetH Tryd.prog [("math/bits.deBruijn32tab",Rows.laid_math_bits_deBruijn32tab)] W):Tab (Hp.of W) :=
  laid_bytes tab (by kernel_rfl) (by kernel_rfl) Tryd.underlying96 Tryd.underlying5 (by kernel_rfl) (by rfl) h
theorem door_met (os:Os) (args:Array Value):laidMetH Tryd.prog [("math/bits.deBruijn32tab",Rows.laid_math_bits_deBruijn32tab)] ((World.doorLaid Tryd.prog 400 os).forCall (fun _ _ => 0) ⟨#[],args,[]⟩).memory :=
  laidMetH_of_parts3 (fuel:=8) (laidMet_of_run' 8 (by kernel_rfl) (by kernel_rfl)) (by kernel_rfl) (by kernel_rfl)
theorem opn5:Opn Tryd.prog 5 (kU .u8 256 1 (by decide)):=opn_nat Tryd.underlying5 rfl rfl
theorem opn31:Opn Tryd.prog 31 (kU .u16 65536 2 (by decide)):=opn_nat Tryd.underlying31 rfl rfl
theorem opn4:Opn Tryd.prog 4 kB:=opn_bool Tryd.underlying4
theorem opn62:Opn Tryd.prog 62 kMove:=fun {Hh enc W fuel cs x} h hw => by
  obtain ⟨hl,hp⟩:=opn_parts Tryd.underlying62 h hw
  rw [show Tryd.prog.cellsOf 62 = 4 from by kernel_rfl] at hl
  match cs,hl with
  | [v0,v1,v2,v3],_ =>
    obtain ⟨a0,r0⟩:=hp 0 _ rfl opn5
    have r0:(kU .u8 256 1 (by decide)).rep _ a0 (([v0,v1,v2,v3].drop 0).take (Tryd.prog.cellsOf 5)):=r0
    rw [show Tryd.prog.cellsOf 5 = 1 from by kernel_rfl] at r0
    have r0:(kU .u8 256 1 (by decide)).rep _ a0 [v0]:=r0
    obtain ⟨a1,r1⟩:=hp 1 _ rfl opn5
    have r1:(kU .u8 256 1 (by decide)).rep _ a1 (([v0,v1,v2,v3].drop 1).take (Tryd.prog.cellsOf 5)):=r1
    rw [show Tryd.prog.cellsOf 5 = 1 from by kernel_rfl] at r1
    have r1:(kU .u8 256 1 (by decide)).rep _ a1 [v1]:=r1
    obtain ⟨a2,r2⟩:=hp 2 _ rfl opn31
    have r2:(kU .u16 65536 2 (by decide)).rep _ a2 (([v0,v1,v2,v3].drop 2).take (Tryd.prog.cellsOf 31)):=r2
    rw [show Tryd.prog.cellsOf 31 = 1 from by kernel_rfl] at r2
    have r2:(kU .u16 65536 2 (by decide)).rep _ a2 [v2]:=r2
    obtain ⟨a3,r3⟩:=hp 3 _ rfl opn4
    have r3:kB.rep _ a3 (([v0,v1,v2,v3].drop 3).take (Tryd.prog.cellsOf 4)):=r3
    rw [show Tryd.prog.cellsOf 4 = 1 from by kernel_rfl] at r3
    have r3:kB.rep _ a3 [v3]:=r3
    obtain ⟨e0,b_1⟩:=r0
    try simp only [List.cons.injEq,and_true] at e0
    first | subst e0 | cases e0
    obtain ⟨e1,b_101⟩:=r1
    try simp only [List.cons.injEq,and_true] at e1
    first | subst e1 | cases e1
    obtain ⟨e2,b_201⟩:=r2
    try simp only [List.cons.injEq,and_true] at e2
    first | subst e2 | cases e2
    have e3:=r3
    try simp only [List.cons.injEq,and_true] at e3
    first | subst e3 | cases e3
    exact ⟨GMove.mk a0 a1 a2 a3,rfl,b_1,b_101,b_201⟩
theorem opn57:Opn Tryd.prog 57 (kSl kMove):=opn_sl Tryd.underlying57 (by kernel_rfl) (by kernel_rfl) opn62
end Go.Proofs.YtcccaihjgoaehaaDoor

set_option linter.unusedVariables false
set_option linter.unusedSimpArgs false
namespace Go.FM
def bsGo (c:Nat → Bool) (i j:Nat):Nat:=if i < j then (if c ((i + j) / 2) then bsGo c ((i + j) / 2 + 1) j else bsGo c i ((i + j) / 2)) else i
termination_by j - i
decreasing_by all_goals omega
theorem bsGo_yes {c:Nat → Bool} {i j:Nat} (h:i < j) (hc:c ((i + j) / 2 ^ 1) = true):bsGo c ((i + j) / 2 ^ 1 + 1) j = bsGo c i j:=by
  conv => rhs; rw [bsGo]
  simp only [Nat.pow_one] at hc ⊢
  rw [if_pos h,if_pos hc]
theorem bsGo_no {c:Nat → Bool} {i j:Nat} (h:i < j) (hc:c ((i + j) / 2 ^ 1) = false):bsGo c i ((i + j) / 2 ^ 1) = bsGo c i j:=by
  conv => rhs; rw [bsGo]
  simp only [Nat.pow_one] at hc ⊢
  rw [if_pos h,if_neg (by rw [hc]; simp)]
theorem bsGo_end {c:Nat → Bool} {i j:Nat} (h:¬ i < j):bsGo c i j = i:=by rw [bsGo,if_neg h]
theorem bsGo_le (c:Nat → Bool) (i j:Nat) (h:i ≤ j):i ≤ bsGo c i j∧bsGo c i j ≤ j:=by
  rw [bsGo]
  split
  · split
    · have:=bsGo_le c ((i + j) / 2 + 1) j (by omega); omega
    · have:=bsGo_le c i ((i + j) / 2) (by omega); omega
  · omega
termination_by j - i
decreasing_by all_goals omega
theorem bsGo_spec (c:Nat → Bool) (i j n:Nat) (h:i ≤ j) (hj:j ≤ n) (hlo:∀ k,k < i → c k = true) (hhi:∀ k,j ≤ k → k < n → c k = false) (hm:∀ k l,k ≤ l → l < n → c l = true → c k = true) :
    (∀ k,k < bsGo c i j → c k = true)∧(∀ k,bsGo c i j ≤ k → k < n → c k = false):=by
  rw [bsGo]
  split
  · split
    · rename_i h1 h2
      refine bsGo_spec c _ j n (by omega) hj (fun k hk => hm k ((i + j) / 2) (by omega) (by omega) h2) hhi hm
    · rename_i h1 h2
      refine bsGo_spec c i _ n (by omega) (by omega) hlo (fun k hk hkn => ?_) hm
      cases hck:c k with
      | false => rfl
      | true => exact absurd (hm _ k hk hkn hck) h2
  · exact ⟨fun k hk => hlo k hk,fun k hk hkn => hhi k (by omega) hkn⟩
termination_by j - i
decreasing_by all_goals omega
section
variable {α β:Type} {f:α → β → Int} {x:List α} {t:β}
def lessAt (f:α → β → Int) (x:List α) (t:β) (h:Nat):Bool:=match x[h]? with | some e => decide (f e t < 0) | none => false
theorem lessAt_some {h:Nat} {e:α} (hx:x[h]? = some e):lessAt f x t h = decide (f e t < 0):=by unfold lessAt; rw [hx]
def bsIx (f:α → β → Int) (x:List α) (t:β):Nat:=bsGo (lessAt f x t) 0 x.length
def bsOk (f:α → β → Int) (x:List α) (t:β):Bool:=match x[bsIx f x t]? with | some e => decide (f e t = 0) | none => false
theorem bsIx_le:bsIx f x t ≤ x.length:=(bsGo_le _ _ _ (Nat.zero_le _)).2
theorem bsOk_lt (h:bsOk f x t = true):bsIx f x t < x.length:=by
  unfold bsOk at h
  split at h
  · rename_i hx; exact (List.getElem?_eq_some_iff.1 hx).1
  · cases h
theorem bsOk_some {e:α} {i:Nat} (hi:bsIx f x t = i) (hx:x[i]? = some e):bsOk f x t = decide (f e t = 0):=by unfold bsOk; rw [hi,hx]
theorem bsOk_none {i:Nat} (hi:bsIx f x t = i) (hx:x.length ≤ i):bsOk f x t = false:=by unfold bsOk; rw [hi,List.getElem?_eq_none hx]
end
theorem del_start {α:Type} {p:α → Bool} {s:List α} (h:¬ idxP p s = -1):s.take (idxP p s).toNat = (s.take ((idxP p s).toNat + 1)).filter (fun x => !p x)∧(idxP p s).toNat < s.length:=by
  rcases idxP_find p s with ⟨h1,_⟩ | ⟨i,x,h1,h2,h3⟩
  · exact absurd h1 h
  · rw [h1,Int.toNat_natCast]
    refine ⟨?_,(List.getElem?_eq_some_iff.1 h2).1⟩
    rw [take_succ' h2,List.filter_append]
    have hp:p x = true:=by have:=List.find?_some h3; simpa using this
    have:(s.take i).filter (fun x => !p x) = s.take i:=by
      rw [List.filter_eq_self]
      intro a ha
      obtain ⟨j,hj,rfl⟩:=List.mem_iff_getElem.1 ha
      have hj':j < i:=by simp at hj; omega
      cases hpa:p (s.take i)[j] with
      | false => rfl
      | true =>
        exfalso
        have hge:=idxP_ge p s
        have hjs:j < s.length:=by simp at hj; omega
        rw [List.getElem_take] at hpa
        have key:∀ (l:List α) (j:Nat) (hj:j < l.length),p l[j] = true → idxP p l ≤ j:=by
          intro l
          induction l with
          | nil => intro j hj; simp at hj
          | cons y l ih =>
            intro j hj hp
            simp only [idxP]
            split
            · omega
            · cases j with
              | zero => rename_i hn; simp at hp; exact absurd hp hn
              | succ j =>
                have:=ih j (by simpa using hj) (by simpa using hp)
                split <;> omega
        have:=key s j hjs hpa
        omega
    rw [this,List.filter_cons]
    simp [hp]
theorem del_keep {α:Type} {p:α → Bool} {s ys:List α} {i j:Nat} {e:α} (ha:ys.take i = (s.take j).filter (fun x => !p x)) (hb:ys.drop j = s.drop j) (hx:ys[j]? = some e) (hij:i < j) (hp:p e = false) :
    (ys.set i e).take (i + 1) = (s.take (j + 1)).filter (fun x => !p x)∧(ys.set i e).drop (j + 1) = s.drop (j + 1):=by
  have hjl:=(List.getElem?_eq_some_iff.1 hx).1
  have hs:s[j]? = some e:=by
    have:(ys.drop j)[0]? = (s.drop j)[0]?:=by rw [hb]
    simpa [hx] using this.symm
  constructor
  · rw [take_succ' hs,List.filter_append,← ha]
    have:(ys.set i e)[i]? = some e:=by simp [show i < ys.length by omega]
    rw [take_succ' this,List.take_set_of_le (Nat.le_refl _)]
    simp [hp]
  · rw [List.drop_set,if_pos (by omega)]
    have:=congrArg (List.drop 1) hb
    simpa [List.drop_drop] using this
theorem del_skip {α:Type} {p:α → Bool} {s ys:List α} {i j:Nat} {e:α} (ha:ys.take i = (s.take j).filter (fun x => !p x)) (hb:ys.drop j = s.drop j) (hx:ys[j]? = some e) (hp:p e = true) :
    ys.take i = (s.take (j + 1)).filter (fun x => !p x)∧ys.drop (j + 1) = s.drop (j + 1):=by
  have hs:s[j]? = some e:=by
    have:(ys.drop j)[0]? = (s.drop j)[0]?:=by rw [hb]
    simpa [hx] using this.symm
  constructor
  · rw [take_succ' hs,List.filter_append,← ha]; simp [hp]
  · have:=congrArg (List.drop 1) hb
    simpa [List.drop_drop] using this
theorem del_none {α:Type} {p:α → Bool} {s:List α} (h:idxP p s = -1):s.filter (fun x => !p x) = s:=by
  rw [List.filter_eq_self]
  intro a ha
  rcases idxP_find p s with ⟨_,h2⟩ | ⟨i,x,h1,_,_⟩
  · rw [List.find?_eq_none] at h2
    simpa using h2 a ha
  · omega
end Go.FM
namespace Go.FM
def stepC (out:List GState) (s:GState):List GState :=
  if bsOk (fun y0 y1 => (vcmp y0.V y1)) out s.V then
    (match out[bsIx (fun y0 y1 => (vcmp y0.V y1)) out s.V]? with | some e => if sEnd e < sEnd s then out.set (bsIx (fun y0 y1 => (vcmp y0.V y1)) out s.V) s else out | none => out)
  else out.take (bsIx (fun y0 y1 => (vcmp y0.V y1)) out s.V) ++ [s] ++ out.drop (bsIx (fun y0 y1 => (vcmp y0.V y1)) out s.V)
theorem stepC_ins {out:List GState} {s:GState} (h:bsOk (fun y0 y1 => (vcmp y0.V y1)) out s.V = false):stepC out s = out.take (bsIx (fun y0 y1 => (vcmp y0.V y1)) out s.V) ++ [s] ++ out.drop (bsIx (fun y0 y1 => (vcmp y0.V y1)) out s.V):=by
  unfold stepC; rw [if_neg (by rw [h]; simp)]
theorem stepC_set {out:List GState} {s e:GState} (h:bsOk (fun y0 y1 => (vcmp y0.V y1)) out s.V = true) (hx:out[bsIx (fun y0 y1 => (vcmp y0.V y1)) out s.V]? = some e) (hl:sEnd e < sEnd s):stepC out s = out.set (bsIx (fun y0 y1 => (vcmp y0.V y1)) out s.V) s:=by
  unfold stepC; rw [if_pos h,hx]; simp only; rw [if_pos hl]
theorem stepC_stay {out:List GState} {s e:GState} (h:bsOk (fun y0 y1 => (vcmp y0.V y1)) out s.V = true) (hx:out[bsIx (fun y0 y1 => (vcmp y0.V y1)) out s.V]? = some e) (hl:¬ sEnd e < sEnd s):stepC out s = out:=by
  unfold stepC; rw [if_pos h,hx]; simp only; rw [if_neg hl]
def cutTo (l:List GState):Nat → List GState
  | 0 => []
  | k + 1 => match l[k]? with | some s => stepC (cutTo l k) s | none => cutTo l k
theorem cutTo_next {l:List GState} {i:Nat} {s:GState} (hx:l[i]? = some s):cutTo l (i + 1) = stepC (cutTo l i) s:=by simp only [cutTo,hx]
theorem stepC_mem {out:List GState} {s x:GState} (h:x ∈ stepC out s):x = s ∨ x ∈ out:=by
  unfold stepC at h
  split at h
  · split at h
    · split at h
      · rcases List.mem_or_eq_of_mem_set h with h | h
        · exact .inr h
        · exact .inl h
      · exact .inr h
    · exact .inr h
  · simp only [List.mem_append,List.mem_singleton] at h
    rcases h with (h | h) | h
    · exact .inr (List.mem_of_mem_take h)
    · exact .inl h
    · exact .inr (List.mem_of_mem_drop h)
theorem stepC_length (out:List GState) (s:GState):(stepC out s).length ≤ out.length + 1:=by
  unfold stepC
  split
  · split
    · split
      · simp
      · omega
    · omega
  · simp; omega
theorem cutTo_length (l:List GState):∀ k,(cutTo l k).length ≤ k
  | 0 => by simp [cutTo]
  | k + 1 => by
    have:=cutTo_length l k
    simp only [cutTo]
    split
    · have h2:=stepC_length (cutTo l k) (by assumption); omega
    · omega
theorem cutTo_mem (l:List GState):∀ k,∀ x ∈ cutTo l k,x ∈ l
  | 0,x,h => by simp [cutTo] at h
  | k + 1,x,h => by
    simp only [cutTo] at h
    split at h
    · rename_i s hs
      rcases stepC_mem h with rfl | h
      · exact List.mem_of_getElem? hs
      · exact cutTo_mem l k x h
    · exact cutTo_mem l k x h
def joinC (l:List GState):List GState:=(cutTo l l.length).filter (fun x => !(decide (((x.V.N:Nat):Int) = 0)))
end Go.FM

set_option linter.unusedVariables false
set_option linter.unusedSimpArgs false
namespace Go.FM
def SortedV (a:List GState):Prop:=a.Pairwise (fun x y => vcmp x.V y.V < 0)
theorem vcmp_irr (a:GViewID):¬ vcmp a a < 0:=by
  have:=(vcmp_zero a a).2 rfl; omega
theorem vcmp_asym {a b:GViewID} (h:vcmp a b < 0):¬ vcmp b a < 0:=by
  have:=vcmp_neg a b; omega
theorem vcmp_lt_iff (a b:GViewID):vcmp a b < 0 ↔ a.N < b.N ∨ a.N = b.N∧a.P < b.P:=by
  have h1:=vcmp_neg a b
  have h2:=vcmp_pos b a
  omega
theorem vcmp_trans {a b c:GViewID} (h:vcmp a b < 0) (k:vcmp b c < 0):vcmp a c < 0:=by
  rw [vcmp_lt_iff] at *; omega
theorem SortedV.same {a:List GState} (h:SortedV a):∀ {x y:GState},x ∈ a → y ∈ a → x.V = y.V → x = y:=by
  induction a with
  | nil => intro x y hx; cases hx
  | cons z a ih =>
    intro x y hx hy e
    have hp:=List.pairwise_cons.1 h
    rcases List.mem_cons.1 hx with h1 | h1 <;> rcases List.mem_cons.1 hy with h2 | h2
    · rw [h1,h2]
    · have:=hp.1 y h2; rw [← h1,e] at this; exact absurd this (vcmp_irr _)
    · have:=hp.1 x h1; rw [← h2,e] at this; exact absurd this (vcmp_irr _)
    · exact ih hp.2 h1 h2 e
theorem sorted_ext:∀ {a b:List GState},SortedV a → SortedV b → (∀ x,x ∈ a ↔ x ∈ b) → a = b
  | [],[],_,_,_ => rfl
  | [],y::b,_,_,h => absurd ((h y).2 List.mem_cons_self) List.not_mem_nil
  | x::a,[],_,_,h => absurd ((h x).1 List.mem_cons_self) List.not_mem_nil
  | x::a,y::b,ha,hb,h => by
    have pa:=List.pairwise_cons.1 ha
    have pb:=List.pairwise_cons.1 hb
    have exy:x = y:=by
      rcases List.mem_cons.1 ((h x).1 List.mem_cons_self) with e | hx
      · exact e
      · rcases List.mem_cons.1 ((h y).2 List.mem_cons_self) with e | hy
        · exact e.symm
        · exact absurd (pa.1 y hy) (vcmp_asym (pb.1 x hx))
    subst exy
    congr 1
    refine sorted_ext pa.2 pb.2 fun z => ⟨fun hz => ?_,fun hz => ?_⟩
    · rcases List.mem_cons.1 ((h z).1 (List.mem_cons_of_mem _ hz)) with rfl | h1
      · exact absurd (pa.1 z hz) (vcmp_irr _)
      · exact h1
    · rcases List.mem_cons.1 ((h z).2 (List.mem_cons_of_mem _ hz)) with rfl | h1
      · exact absurd (pb.1 z hz) (vcmp_irr _)
      · exact h1
theorem insS_sorted {s:GState}:∀ {a:List GState},SortedV a → (∀ x ∈ a,x.V ≠ s.V) → SortedV (insS s a)
  | [],_,_ => List.pairwise_singleton _ _
  | x::a,h,hn => by
    have hp:=List.pairwise_cons.1 h
    simp only [insS]
    have hne:=hn x List.mem_cons_self
    have hx0:vcmp x.V s.V ≠ 0:=fun e => hne ((vcmp_zero _ _).1 e)
    split
    · rename_i h1
      have h2:vcmp s.V x.V < 0:=by have:=vcmp_neg s.V x.V; omega
      refine List.pairwise_cons.2 ⟨fun y hy => ?_,h⟩
      rcases List.mem_cons.1 hy with rfl | hy
      · exact h2
      · exact vcmp_trans h2 (hp.1 y hy)
    · rename_i h1
      refine List.pairwise_cons.2 ⟨fun y hy => ?_,insS_sorted hp.2 fun y hy => hn y (List.mem_cons_of_mem _ hy)⟩
      rcases (insS_mem s y a).1 hy with rfl | hy
      · omega
      · exact hp.1 y hy
def bestIn (l:List GState) (x:GState) (i k:Nat):Prop:=∀ j t,j < k → l[j]? = some t → beats t x j i = false
theorem bestTo_iff (l:List GState) (s:GState) (i:Nat):∀ k,bestTo l s i k = true ↔ 0 < s.V.N∧bestIn l s i k
  | 0 => by simp [bestTo,bestIn]
  | k + 1 => by
    simp only [bestTo,Bool.and_eq_true,bestTo_iff l s i k]
    constructor
    · rintro ⟨⟨h1,h2⟩,h3⟩
      refine ⟨h1,fun j t hj ht => ?_⟩
      by_cases hjk:j < k
      · exact h2 j t hjk ht
      · obtain rfl:j = k:=by omega
        rw [ht] at h3; simpa using h3
    · rintro ⟨h1,h2⟩
      refine ⟨⟨h1,fun j t hj ht => h2 j t (by omega) ht⟩,?_⟩
      cases hk:l[k]? with
      | none => rfl
      | some t => simp [h2 k t (by omega) hk]
theorem beats_false {t s:GState} {k i:Nat}:beats t s k i = false ↔ (t.V = s.V → ¬ sEnd s < sEnd t∧¬ (sEnd t = sEnd s∧k < i)):=by
  rw [beats_iff,decide_eq_false_iff_not]
  constructor
  · intro h e; exact ⟨fun h1 => h ⟨e,.inl h1⟩,fun h1 => h ⟨e,.inr h1⟩⟩
  · rintro h ⟨e,h1 | h1⟩
    · exact (h e).1 h1
    · exact (h e).2 h1
theorem bestIn_same {l:List GState} {x y:GState} {i j k:Nat} (hi:i < k) (hj:j < k) (hx:l[i]? = some x) (hy:l[j]? = some y) (bx:bestIn l x i k) (by_:bestIn l y j k) (e:x.V = y.V):x = y:=by
  have h1:=beats_false.1 (bx j y hj hy) e.symm
  have h2:=beats_false.1 (by_ i x hi hx) e
  have:i = j:=by omega
  subst this
  rw [hx] at hy; injection hy
theorem joinTo_spec (l:List GState):∀ i,SortedV (joinTo l i)∧∀ x,x ∈ joinTo l i ↔ ∃ k,k < i∧l[k]? = some x∧0 < x.V.N∧bestIn l x k l.length
  | 0 => ⟨List.Pairwise.nil,fun x => by simp [joinTo]⟩
  | i + 1 => by
    obtain ⟨h1,h2⟩:=joinTo_spec l i
    cases hs:l[i]? with
    | none =>
      have e:joinTo l (i + 1) = joinTo l i:=by simp only [joinTo,hs]
      rw [e]
      refine ⟨h1,fun x => (h2 x).trans ⟨fun ⟨k,a,b⟩ => ⟨k,by omega,b⟩,fun ⟨k,a,b,c⟩ => ⟨k,?_,b,c⟩⟩⟩
      by_cases hk:k = i
      · subst hk; rw [hs] at b; cases b
      · omega
    | some s =>
      have hil:i < l.length:=(List.getElem?_eq_some_iff.1 hs).1
      by_cases hb:bestTo l s i l.length = true
      · have e:joinTo l (i + 1) = insS s (joinTo l i):=by simp only [joinTo,hs,hb,if_true]
        obtain ⟨hN,hbest⟩:=(bestTo_iff l s i _).1 hb
        have hne:∀ x ∈ joinTo l i,x.V ≠ s.V:=fun x hx ev => by
          obtain ⟨k,hk,hxk,_,hbx⟩:=(h2 x).1 hx
          have q1:=beats_false.1 (hbest k x (by omega) hxk) ev
          have q2:=beats_false.1 (hbx i s hil hs) ev.symm
          omega
        rw [e]
        refine ⟨insS_sorted h1 hne,fun x => ?_⟩
        rw [insS_mem]
        constructor
        · rintro (rfl | hx)
          · exact ⟨i,by omega,hs,hN,hbest⟩
          · obtain ⟨k,hk,r⟩:=(h2 x).1 hx; exact ⟨k,by omega,r⟩
        · rintro ⟨k,hk,hxk,r⟩
          by_cases hki:k = i
          · subst hki; rw [hs] at hxk; injection hxk with hxk; exact .inl hxk.symm
          · exact .inr ((h2 x).2 ⟨k,by omega,hxk,r⟩)
      · have e:joinTo l (i + 1) = joinTo l i:=by simp only [joinTo,hs]; rw [if_neg hb]
        rw [e]
        refine ⟨h1,fun x => (h2 x).trans ⟨fun ⟨k,a,b⟩ => ⟨k,by omega,b⟩,fun ⟨k,a,b,c⟩ => ?_⟩⟩
        by_cases hk:k = i
        · subst hk; rw [hs] at b; injection b with b; subst b
          exact absurd ((bestTo_iff l s k _).2 c) hb
        · exact ⟨k,by omega,b,c⟩
abbrev cmpSV:GState → GViewID → Int:=fun y0 y1 => (vcmp y0.V y1)
theorem bs_sorted {out:List GState} (h:SortedV out) (v:GViewID):(∀ k x,k < bsIx cmpSV out v → out[k]? = some x → vcmp x.V v < 0)∧(∀ k x,bsIx cmpSV out v ≤ k → out[k]? = some x → ¬ vcmp x.V v < 0):=by
  have hp:=List.pairwise_iff_getElem.1 h
  have hm:∀ k m,k ≤ m → m < out.length → lessAt cmpSV out v m = true → lessAt cmpSV out v k = true:=fun k m hkm hm hl => by
    have hk:k < out.length:=by omega
    rw [lessAt_some (List.getElem?_eq_getElem hm),decide_eq_true_eq] at hl
    rw [lessAt_some (List.getElem?_eq_getElem hk),decide_eq_true_eq]
    by_cases e:k = m
    · subst e; exact hl
    · exact vcmp_trans (hp k m hk hm (by omega)) hl
  obtain ⟨h1,h2⟩:=bsGo_spec (lessAt cmpSV out v) 0 out.length out.length (Nat.zero_le _) (Nat.le_refl _) (fun k hk => absurd hk (Nat.not_lt_zero _)) (fun k hk hkn => absurd hkn (by omega)) hm
  refine ⟨fun k x hk hx => ?_,fun k x hk hx => ?_⟩
  · have:=h1 k hk
    rw [lessAt_some hx,decide_eq_true_eq] at this
    exact this
  · have:=h2 k hk (List.getElem?_eq_some_iff.1 hx).1
    rw [lessAt_some hx,decide_eq_false_iff_not] at this
    exact this
theorem stepC_spec {out:List GState} (h:SortedV out) (s:GState) :
    SortedV (stepC out s)∧((∀ x ∈ out,x.V ≠ s.V)∧(∀ x,x ∈ stepC out s ↔ x = s ∨ x ∈ out) ∨
      ∃ e ∈ out,e.V = s.V∧(sEnd e < sEnd s∧(∀ x,x ∈ stepC out s ↔ x = s ∨ x ∈ out∧x.V ≠ s.V) ∨ ¬ sEnd e < sEnd s∧stepC out s = out)):=by
  obtain ⟨h1,h2⟩:=bs_sorted h s.V
  have hp:=List.pairwise_iff_getElem.1 h
  have hle:bsIx cmpSV out s.V ≤ out.length:=bsIx_le
  cases hb:bsOk cmpSV out s.V with
  | false =>
    have hne:∀ x ∈ out,x.V ≠ s.V:=fun x hx ev => by
      obtain ⟨k,hk,rfl⟩:=List.mem_iff_getElem.1 hx
      have hkx:=List.getElem?_eq_getElem hk
      rcases Nat.lt_trichotomy k (bsIx cmpSV out s.V) with hlt | heq | hgt
      · have:=h1 k _ hlt hkx; rw [ev] at this; exact vcmp_irr _ this
      · have hkx':out[bsIx cmpSV out s.V]? = some out[k]:=by rw [← heq]; exact hkx
        have h5:=bsOk_some (f:=cmpSV) (t:=s.V) rfl hkx'
        rw [hb] at h5
        have h6:=of_decide_eq_false h5.symm
        exact h6 ((vcmp_zero _ _).2 ev)
      · have hix:bsIx cmpSV out s.V < out.length:=by omega
        have q1:=h2 _ _ (Nat.le_refl _) (List.getElem?_eq_getElem hix)
        have q2:=hp _ k hix hk hgt
        rw [ev] at q2
        exact q1 q2
    have e:=stepC_ins hb
    have hmem:∀ x,x ∈ stepC out s ↔ x = s ∨ x ∈ out:=fun x => by
      rw [e]
      simp only [List.mem_append,List.mem_singleton]
      have:x ∈ out ↔ x ∈ out.take (bsIx cmpSV out s.V) ∨ x ∈ out.drop (bsIx cmpSV out s.V):=by
        conv => lhs; rw [← List.take_append_drop (bsIx cmpSV out s.V) out]
        rw [List.mem_append]
      rw [this]
      constructor
      · rintro ((h | h) | h)
        · exact .inr (.inl h)
        · exact .inl h
        · exact .inr (.inr h)
      · rintro (h | h | h)
        · exact .inl (.inr h)
        · exact .inl (.inl h)
        · exact .inr h
    refine ⟨?_,.inl ⟨hne,hmem⟩⟩
    rw [e]
    have hsplit:SortedV (out.take (bsIx cmpSV out s.V) ++ out.drop (bsIx cmpSV out s.V)):=by rw [List.take_append_drop]; exact h
    obtain ⟨p1,p2,p3⟩:=List.pairwise_append.1 hsplit
    have ha:∀ x ∈ out.take (bsIx cmpSV out s.V),vcmp x.V s.V < 0:=fun x hx => by
      obtain ⟨k,hk,rfl⟩:=List.mem_iff_getElem.1 hx
      rw [List.getElem_take]
      have hk':k < bsIx cmpSV out s.V:=by rw [List.length_take] at hk; omega
      exact h1 k _ hk' (List.getElem?_eq_getElem (by rw [List.length_take] at hk; omega))
    have hd:∀ x ∈ out.drop (bsIx cmpSV out s.V),vcmp s.V x.V < 0:=fun x hx => by
      have hxo:=List.mem_of_mem_drop hx
      obtain ⟨k,hk,rfl⟩:=List.mem_iff_getElem.1 hx
      rw [List.getElem_drop]
      have hk2:bsIx cmpSV out s.V + k < out.length:=by rw [List.length_drop] at hk; omega
      have q:=h2 (bsIx cmpSV out s.V + k) _ (by omega) (List.getElem?_eq_getElem hk2)
      have q2:=hne _ (List.getElem_mem hk2)
      have q3:vcmp (out[bsIx cmpSV out s.V + k]).V s.V ≠ 0:=fun e => q2 ((vcmp_zero _ _).1 e)
      have:=vcmp_neg s.V (out[bsIx cmpSV out s.V + k]).V
      omega
    refine List.pairwise_append.2 ⟨List.pairwise_append.2 ⟨p1,List.pairwise_singleton _ _,fun x hx y hy => ?_⟩,p2,fun x hx y hy => ?_⟩
    · simp only [List.mem_singleton] at hy; subst hy; exact ha x hx
    · rcases List.mem_append.1 hx with hx | hx
      · exact p3 x hx y hy
      · simp only [List.mem_singleton] at hx; subst hx; exact hd y hy
  | true =>
    have hlt:=bsOk_lt hb
    have hx:=List.getElem?_eq_getElem hlt
    generalize he:out[bsIx cmpSV out s.V] = e at hx
    have heo:e ∈ out:=List.mem_of_getElem? hx
    have hev:e.V = s.V:=by
      have h5:=bsOk_some (f:=cmpSV) (t:=s.V) rfl hx
      rw [hb] at h5
      exact (vcmp_zero _ _).1 (of_decide_eq_true h5.symm)
    by_cases hE:sEnd e < sEnd s
    · have e1:=stepC_set hb hx hE
      have hmem:∀ x,x ∈ stepC out s ↔ x = s ∨ x ∈ out∧x.V ≠ s.V:=fun x => by
        rw [e1]
        constructor
        · intro hx'
          obtain ⟨k,hk,rfl⟩:=List.mem_iff_getElem.1 hx'
          rw [List.length_set] at hk
          rw [List.getElem_set]
          split
          · exact .inl rfl
          · rename_i hne
            refine .inr ⟨List.getElem_mem hk,fun ev => hne ?_⟩
            have:=h.same (List.getElem_mem hk) heo (ev.trans hev.symm)
            rcases Nat.lt_trichotomy k (bsIx cmpSV out s.V) with hl | hl | hl
            · have:=hp k _ hk hlt hl
              rw [ev,he,hev] at this; exact absurd this (vcmp_irr _)
            · exact hl.symm
            · have:=hp _ k hlt hk hl
              rw [ev,he,hev] at this; exact absurd this (vcmp_irr _)
        · rintro (rfl | ⟨hxo,hxv⟩)
          · exact List.mem_iff_getElem.2 ⟨bsIx cmpSV out x.V,by rw [List.length_set]; exact hlt,by simp⟩
          · obtain ⟨k,hk,rfl⟩:=List.mem_iff_getElem.1 hxo
            refine List.mem_iff_getElem.2 ⟨k,by rw [List.length_set]; exact hk,?_⟩
            rw [List.getElem_set,if_neg]
            intro hki
            subst hki
            exact hxv (by rw [he,hev])
      refine ⟨?_,.inr ⟨e,heo,hev,.inl ⟨hE,hmem⟩⟩⟩
      rw [e1]
      refine List.pairwise_iff_getElem.2 fun i j hi hj hij => ?_
      rw [List.length_set] at hi hj
      have:=hp i j hi hj hij
      rw [List.getElem_set,List.getElem_set]
      split
      · rename_i hh; subst hh
        rw [if_neg (by omega)]
        rw [he,hev] at this; exact this
      · split
        · rename_i hh; subst hh
          rw [he,hev] at this; exact this
        · exact this
    · have e1:=stepC_stay hb hx hE
      exact ⟨by rw [e1]; exact h,.inr ⟨e,heo,hev,.inr ⟨hE,e1⟩⟩⟩
theorem cutTo_spec (l:List GState):∀ k,k ≤ l.length → SortedV (cutTo l k)∧(∀ x ∈ cutTo l k,∃ i,i < k∧l[i]? = some x∧bestIn l x i k)∧(∀ j t,j < k → l[j]? = some t → ∃ x ∈ cutTo l k,x.V = t.V)
  | 0,_ => ⟨List.Pairwise.nil,fun x h => by simp [cutTo] at h,fun j t hj => absurd hj (Nat.not_lt_zero _)⟩
  | k + 1,hk => by
    obtain ⟨h1,h2,h3⟩:=cutTo_spec l k (by omega)
    have hs:=List.getElem?_eq_getElem (l:=l) (i:=k) (by omega)
    generalize l[k] = s at hs
    rw [cutTo_next hs]
    obtain ⟨q1,q2⟩:=stepC_spec h1 s
    have hself:beats s s k k = false:=beats_false.2 fun _ => ⟨by omega,by omega⟩
    have more:∀ x i,bestIn l x i k → beats s x k i = false → bestIn l x i (k + 1):=fun x i hb hsx j t hj ht => by
      by_cases hjk:j < k
      · exact hb j t hjk ht
      · obtain rfl:j = k:=by omega
        rw [hs] at ht; injection ht with ht; subst ht; exact hsx
    refine ⟨q1,?_⟩
    rcases q2 with ⟨hne,hm⟩ | ⟨e,heo,hev,⟨hE,hm⟩ | ⟨hE,hm⟩⟩
    · refine ⟨fun x hx => ?_,fun j t hj ht => ?_⟩
      · rcases (hm x).1 hx with rfl | hx
        · refine ⟨k,by omega,hs,more x k (fun j t hj ht => beats_false.2 fun ev => ?_) hself⟩
          obtain ⟨y,hy,hyv⟩:=h3 j t hj ht
          exact absurd (hyv.trans ev) (hne y hy)
        · obtain ⟨i,hi,hxi,hb⟩:=h2 x hx
          exact ⟨i,by omega,hxi,more x i hb (beats_false.2 fun ev => absurd ev.symm (hne x hx))⟩
      · by_cases hjk:j < k
        · obtain ⟨y,hy,hyv⟩:=h3 j t hjk ht
          exact ⟨y,(hm y).2 (.inr hy),hyv⟩
        · obtain rfl:j = k:=by omega
          rw [hs] at ht; injection ht with ht; subst ht
          exact ⟨s,(hm s).2 (.inl rfl),rfl⟩
    · obtain ⟨i0,hi0,hxe,hbe⟩:=h2 e heo
      refine ⟨fun x hx => ?_,fun j t hj ht => ?_⟩
      · rcases (hm x).1 hx with rfl | ⟨hx,hxv⟩
        · refine ⟨k,by omega,hs,more x k (fun j t hj ht => beats_false.2 fun ev => ?_) hself⟩
          have:=beats_false.1 (hbe j t hj ht) (ev.trans hev.symm)
          omega
        · obtain ⟨i,hi,hxi,hb⟩:=h2 x hx
          exact ⟨i,by omega,hxi,more x i hb (beats_false.2 fun ev => absurd ev.symm hxv)⟩
      · by_cases hjk:j < k
        · obtain ⟨y,hy,hyv⟩:=h3 j t hjk ht
          by_cases hys:y.V = s.V
          · exact ⟨s,(hm s).2 (.inl rfl),hys.symm.trans hyv⟩
          · exact ⟨y,(hm y).2 (.inr ⟨hy,hys⟩),hyv⟩
        · obtain rfl:j = k:=by omega
          rw [hs] at ht; injection ht with ht; subst ht
          exact ⟨s,(hm s).2 (.inl rfl),rfl⟩
    · rw [hm]
      obtain ⟨i0,hi0,hxe,hbe⟩:=h2 e heo
      refine ⟨fun x hx => ?_,fun j t hj ht => ?_⟩
      · obtain ⟨i,hi,hxi,hb⟩:=h2 x hx
        refine ⟨i,by omega,hxi,more x i hb (beats_false.2 fun ev => ?_)⟩
        have hxe':x = e:=h1.same hx heo (ev.symm.trans hev.symm)
        subst hxe'
        exact ⟨hE,by omega⟩
      · by_cases hjk:j < k
        · exact h3 j t hjk ht
        · obtain rfl:j = k:=by omega
          rw [hs] at ht; injection ht with ht; subst ht
          exact ⟨e,heo,hev⟩
theorem joinC_eq (l:List GState):joinC l = joinS l:=by
  obtain ⟨h1,h2,h3⟩:=cutTo_spec l l.length (Nat.le_refl _)
  obtain ⟨g1,g2⟩:=joinTo_spec l l.length
  refine sorted_ext (List.Pairwise.filter _ h1) g1 fun x => ?_
  unfold joinC
  rw [List.mem_filter]
  refine Iff.trans ?_ (g2 x).symm
  constructor
  · rintro ⟨hx,hN⟩
    obtain ⟨i,hi,hxi,hb⟩:=h2 x hx
    exact ⟨i,hi,hxi,by simp at hN; omega,hb⟩
  · rintro ⟨i,hi,hxi,hN,hb⟩
    obtain ⟨y,hy,hyv⟩:=h3 i x hi hxi
    obtain ⟨j,hj,hyj,hby⟩:=h2 y hy
    have:x = y:=bestIn_same hi hj hxi hyj hb hby hyv.symm
    subst this
    exact ⟨hy,by simp; omega⟩
end Go.FM
namespace Go.FM
theorem joinS_sub {l:List GState} {x:GState} (h:x ∈ joinS l):x ∈ l:=(joinTo_mem l _ x h).1
end Go.FM

set_option linter.unusedVariables false
set_option linter.unusedSimpArgs false
namespace Go.FM
open Go
structure GProp where
  v:GView
  who:Nat
  states:List GState
  done:Bool
structure MB where
  n:Nat
  self:Nat
  cur:GView
  prom:GViewID
  high:Nat
  prop:Option GProp
  joined:List GState
  others:List (GViewID × GViewID)
def z0:GViewID:=⟨0,0⟩
def MB.new (n self:Nat):MB:=⟨n,self,⟨z0,0⟩,z0,0,none,[],List.replicate 16 (z0,z0)⟩
def aboveV (a b:GViewID):Bool:=decide (0 < cmpV a.N a.P b.N b.P)
def MB.other (m:MB) (i:Nat):GViewID × GViewID:=m.others.getD i (z0,z0)
def MB.ahead (m:MB) (set:Nat) (v:GViewID):Bool:=(lst set).any fun i => decide (i ≠ m.self) && aboveV (m.other i).2 v
def MB.opn (m:MB):Bool:=decide (0 < m.cur.ID.N) && decide (m.cur.ID = m.prom)
def MB.hear (m:MB) (v:GViewID):MB:={ m with high:=max m.high v.N }
def MB.need (m:MB) (est:Nat):Bool:=decide (m.cur.ID ≠ m.prom) || decide (m.cur.ID.N = 0) || decide (est ≠ m.cur.Set) || m.ahead est m.cur.ID
def MB.under (m:MB) (est:Nat):Bool:=match m.prop with
  | none => false
  | some p => !p.done && decide (m.prom = p.v.ID) && decide (p.v.Set = est) && !m.ahead est p.v.ID
def frCommit (self:Nat) (v:GView) (j:List GState):GFrame:=⟨5,(self:Int),v.ID,v.Set,z0,z0,j,0,[],[],0,0⟩
def frPropose (self:Nat) (v:GView):GFrame:=⟨2,(self:Int),v.ID,v.Set,z0,z0,[],0,[],[],0,0⟩
def frRefuse (self:Nat) (id prom:GViewID):GFrame:=⟨4,(self:Int),id,0,z0,prom,[],0,[],[],0,0⟩
def frAccept (self:Nat) (id:GViewID) (st:GState):GFrame:=⟨3,(self:Int),id,0,z0,z0,[st],0,[],[],0,0⟩
def MB.commit (m:MB) (p:GProp) (i:Nat):GOut:=⟨(i:Int),frCommit m.self p.v m.joined⟩
def MB.again1 (m:MB) (p:GProp) (i:Nat):List GOut :=
  if i = m.self then [] else if p.done = true∧(m.other i).1 ≠ p.v.ID then [m.commit p i] else if p.done = false∧has p.who i = false then [⟨(i:Int),frPropose m.self p.v⟩] else []
def MB.again (m:MB):List GOut:=match m.prop with
  | none => []
  | some p => if m.prom ≠ p.v.ID then [] else (lst p.v.Set).flatMap (m.again1 p)
def MB.agree (m:MB) (p:GProp):MB × Option GInstall :=
  if p.who ≠ p.v.Set then ({ m with prop:=some p },none) else ({ m with prop:=some { p with done:=true,states:=[] },joined:=joinS p.states,cur:=p.v },some ⟨p.v,joinS p.states⟩)
def MB.est (m:MB) (est:Nat):Nat:=wth (est &&& (2 ^ m.n - 1)) m.self
def MB.prop1 (m:MB) (e:Nat) (st:GState):GProp:=⟨⟨⟨(m.high + 1) % 18446744073709551616,(m.self:Int)⟩,e⟩,wth 0 m.self,[st],false⟩
def MB.ticks (m:MB) (e:Nat) (st:GState):MB × Option GInstall:=MB.agree { m with high:=(m.high + 1) % 18446744073709551616,prom:=(m.prop1 e st).v.ID } (m.prop1 e st)
def MB.tick (m:MB) (est:Nat) (st:GState):MB × List GOut × Option GInstall :=
  if least (m.est est) = (m.self:Int)∧m.need (m.est est) = true∧m.under (m.est est) = false then
    (match m.ticks (m.est est) st with
      | (m',some i) => (m',[],some i)
      | (m',none) => (m',m'.again,none))
  else (m,m.again,none)
def MB.propose (m:MB) (f:GFrame) (st:GState):MB × List GOut × Option GInstall × Int :=
  if f.ID.P ≠ f.From ∨ has f.Set m.self = false ∨ has f.Set f.From = false ∨ f.Set / 2 ^ m.n ≠ 0 then (m,[],none,3)
  else if aboveV f.ID m.prom = true then ({ m.hear f.ID with prom:=f.ID },[⟨f.From,frAccept m.self f.ID st⟩],none,0)
  else if f.ID ≠ m.prom ∨ m.cur.ID = f.ID then (m.hear f.ID,[⟨f.From,frRefuse m.self f.ID m.prom⟩],none,9)
  else (m.hear f.ID,[⟨f.From,frAccept m.self f.ID st⟩],none,0)
def MB.acceptOk (m:MB) (p:GProp) (f:GFrame):Bool:=!p.done && decide (p.v.ID = f.ID) && decide (m.prom = f.ID) && has p.v.Set f.From && !has p.who f.From && decide (f.States.length = 1)
def MB.accept (m:MB) (f:GFrame):MB × List GOut × Option GInstall × Int:=match m.prop with
  | none => (m,[],none,9)
  | some p => if m.acceptOk p f = true then
      (match m.agree { p with who:=wth p.who f.From,states:=p.states ++ f.States } with
        | (m',none) => (m',[],none,0)
        | (m',some i) => (m',(lst (wto p.v.Set m.self)).map (m'.commit { p with done:=true }),some i,0))
    else (m,[],none,9)
def MB.inn (m:MB) (f:GFrame) (st:GState):MB × List GOut × Option GInstall × Int :=
  if f.From < 0 ∨ (m.n:Int) ≤ f.From ∨ f.From = (m.self:Int) then (m,[],none,1)
  else if f.Kind = 1 then (({ m with others:=m.others.set f.From.toNat (f.Cur,f.Prom) }.hear f.Cur).hear f.Prom,[],none,0)
  else if f.Kind = 2 then m.propose f st
  else if f.Kind = 3 then m.accept f
  else if f.Kind = 4 then
    (match m.prop with
      | none => (m.hear f.Prom,[],none,0)
      | some p => if p.v.ID = f.ID∧p.done = false∧aboveV f.Prom f.ID = true then ({ m.hear f.Prom with prop:=none },[],none,0) else (m.hear f.Prom,[],none,0))
  else if f.Kind = 5 then
    (if f.ID ≠ m.prom ∨ m.cur.ID = f.ID ∨ has f.Set m.self = false ∨ f.ID.P ≠ f.From then (m,[],none,9) else ({ m with cur:=⟨f.ID,f.Set⟩ },[],some ⟨⟨f.ID,f.Set⟩,f.States⟩,0))
  else (m,[],none,3)
end Go.FM

set_option linter.unusedVariables false
set_option linter.unusedSimpArgs false
namespace Go.FM
open Go
def oCell (x:GViewID × GViewID):List Value:=[.int .u8 0,.int .i64 0,.int .u64 0,.int .i64 0,.int .u16 0,.int .u64 (x.1.N:Int),.int .i64 x.1.P,.int .u64 (x.2.N:Int),.int .i64 x.2.P,.slice none 0 0,.int .u64 0,.slice none 0 0,.slice none 0 0,.int .u64 0,.int .u64 0]
def oCells (os:List (GViewID × GViewID)):List Value:=os.flatMap oCell
theorem oCell_len (x:GViewID × GViewID):(oCell x).length = 15:=rfl
theorem oCells_len (os:List (GViewID × GViewID)):(oCells os).length = os.length * 15:=by
  unfold oCells
  induction os with
  | nil => rfl
  | cons a l ih => rw [List.flatMap_cons,List.length_append,ih,List.length_cons,oCell_len]; omega
theorem oCells_get:∀ (os:List (GViewID × GViewID)) (i j:Nat),i < os.length → j < 15 → (oCells os)[i * 15 + j]? = (oCell (os.getD i (z0,z0)))[j]?
  | a::l,0,j,hi,hj => by
    show (oCell a ++ oCells l)[0 * 15 + j]? = (oCell a)[j]?
    rw [Nat.zero_mul,Nat.zero_add,List.getElem?_append_left (by rw [oCell_len]; exact hj)]
  | a::l,i + 1,j,hi,hj => by
    show (oCell a ++ oCells l)[(i + 1) * 15 + j]? = _
    rw [List.getElem?_append_right (by rw [oCell_len]; omega),oCell_len,show (i + 1) * 15 + j - 15 = i * 15 + j by omega,oCells_get l i j (by simpa using hi) hj]
    rfl
theorem oCells_drop:∀ (os:List (GViewID × GViewID)) (i:Nat),(oCells os).drop (i * 15) = oCells (os.drop i)
  | os,0 => by simp
  | [],i + 1 => by simp [oCells]
  | a::l,i + 1 => by
    show (oCell a ++ oCells l).drop ((i + 1) * 15) = oCells (l.drop i)
    rw [List.drop_append,List.drop_eq_nil_of_le (by rw [oCell_len]; omega),List.nil_append,oCell_len,show (i + 1) * 15 - 15 = i * 15 by omega,oCells_drop l i]
theorem oCells_take:∀ (os:List (GViewID × GViewID)) (i:Nat),(oCells os).take (i * 15) = oCells (os.take i)
  | os,0 => by simp [oCells]
  | [],i + 1 => by simp [oCells]
  | a::l,i + 1 => by
    show (oCell a ++ oCells l).take ((i + 1) * 15) = oCell a ++ oCells (l.take i)
    rw [List.take_append,List.take_of_length_le (by rw [oCell_len]; omega),oCell_len,show (i + 1) * 15 - 15 = i * 15 by omega,oCells_take l i]
theorem oCells_set (os:List (GViewID × GViewID)) (i:Nat) (x:GViewID × GViewID) (hi:i < os.length):splice (oCells os) (i * 15) (oCell x) = oCells (os.set i x):=by
  unfold splice
  rw [oCell_len,oCells_take,show i * 15 + 15 = (i + 1) * 15 by omega,oCells_drop,List.set_eq_take_append_cons_drop,if_pos hi]
  unfold oCells
  rw [List.flatMap_append,List.flatMap_cons,List.append_assoc]
def memCells (n self:Nat) (cur:GView) (prom:GViewID) (high:Nat) (pv jv:Value) (os:List (GViewID × GViewID)):List Value :=
  .int .i64 (n:Int)::.int .i64 (self:Int)::.int .u64 (cur.ID.N:Int)::.int .i64 cur.ID.P::.int .u16 (cur.Set:Int)::.int .u64 (prom.N:Int)::.int .i64 prom.P::.int .u64 (high:Int)::pv::jv::oCells os
section
variable {n self high:Nat} {cur:GView} {prom:GViewID} {pv jv:Value} {os:List (GViewID × GViewID)} {i j:Nat}
end
def MB.cells (m:MB) (pv jv:Value):List Value:=memCells m.n m.self m.cur m.prom m.high pv jv m.others
def propCells (p:GProp) (sv:Value):List Value:=[.int .u64 (p.v.ID.N:Int),.int .i64 p.v.ID.P,.int .u16 (p.v.Set:Int),.int .u16 (p.who:Int),sv,.bool p.done]
structure VOk (v:GViewID):Prop where
  n:v.N < 18446744073709551616
  p:IB v.P
structure PropOk (H:Hp) (p:GProp) (sv:Value) (sc:List Value):Prop where
  id:VOk p.v.ID
  set:p.v.Set < 65536
  who:p.who < 65536
  ok:RowOk 4 sv p.states.length sc
  hk:kState.toKn.rows H p.states sc
structure MemOk (H:Hp) (m:MB) (A:Option Addr) (jn jc:Nat) (sv:Value) (sc:List Value):Prop where
  n1:1 ≤ m.n
  n16:m.n ≤ 16
  self:m.self < m.n
  cur:VOk m.cur.ID
  set:m.cur.Set < 65536
  prom:VOk m.prom
  high:m.high < 18446744073709551616
  joined:Sl kState H A jn jc m.joined
  len:m.others.length = 16
  oth:∀ x ∈ m.others,VOk x.1∧VOk x.2
  prop:∀ p,m.prop = some p → PropOk H p sv sc
theorem MemOk.other {H:Hp} {m:MB} {A:Option Addr} {jn jc:Nat} {sv:Value} {sc:List Value} (h:MemOk H m A jn jc sv sc) (i:Nat):VOk (m.other i).1∧VOk (m.other i).2:=by
  unfold MB.other
  rw [List.getD_eq_getElem?_getD]
  cases e:m.others[i]? with
  | none => exact ⟨⟨by decide,by constructor <;> decide⟩,⟨by decide,by constructor <;> decide⟩⟩
  | some x => exact h.oth x (List.mem_of_getElem? e)
theorem oth_get {v0 v1 v2 v3 v4 v5 v6 v7 v8 v9:Value} {os:List (GViewID × GViewID)} {i j:Nat} (h:os.length = 16) (hi:i < 16) (hj:j < 15):(v0::v1::v2::v3::v4::v5::v6::v7::v8::v9::oCells os)[10 + i * 15 + j]? = (oCell (os.getD i (z0,z0)))[j]?:=by
  rw [show 10 + i * 15 + j = i * 15 + j + 1 + 1 + 1 + 1 + 1 + 1 + 1 + 1 + 1 + 1 by omega]
  simp only [List.getElem?_cons_succ]
  exact oCells_get os i j (by omega) hj
theorem oth_at {H:Hp} {w:World} {L:List Res} {g:Nat} {T:TypeId} {v0 v1 v2 v3 v4 v5 v6 v7 v8 v9:Value} {os:List (GViewID × GViewID)} (h:St H w L) (i:Nat) (hi:L[i]? = some (obj g T (v0::v1::v2::v3::v4::v5::v6::v7::v8::v9::oCells os))) (h16:os.length = 16) {idx k:Nat} (hx:idx < 16) {ds:List Value} (hk:((oCell (os.getD idx (z0,z0))).drop k).take ds.length = ds):At w ⟨g,10 + idx * 15 + k,none⟩ ds:=by
  intro j v hv
  rw [add_none]
  have hj:=(List.getElem?_eq_some_iff.1 hv).1
  rw [← hk] at hv
  rw [List.getElem?_take,if_pos hj,List.getElem?_drop] at hv
  have h15:k + j < 15:=by
    have:=(List.getElem?_eq_some_iff.1 hv).1
    rw [oCell_len] at this; exact this
  refine h.cell i hi (10 + idx * 15 + k + j) ?_
  rw [show 10 + idx * 15 + k + j = 10 + idx * 15 + (k + j) by omega,oth_get h16 hx h15]
  exact hv
theorem oth_set {v0 v1 v2 v3 v4 v5 v6 v7 v8 v9:Value} {os:List (GViewID × GViewID)} {i:Nat} (h:os.length = 16) (hi:i < 16) (x:GViewID × GViewID):splice (v0::v1::v2::v3::v4::v5::v6::v7::v8::v9::oCells os) (10 + i * 15) (oCell x) = v0::v1::v2::v3::v4::v5::v6::v7::v8::v9::oCells (os.set i x):=by
  have h1:=oCells_set os i x (by omega)
  unfold splice at h1 ⊢
  rw [← h1,show 10 + i * 15 = i * 15 + 1 + 1 + 1 + 1 + 1 + 1 + 1 + 1 + 1 + 1 by omega]
  rw [show i * 15 + 1 + 1 + 1 + 1 + 1 + 1 + 1 + 1 + 1 + 1 + (oCell x).length = i * 15 + (oCell x).length + 1 + 1 + 1 + 1 + 1 + 1 + 1 + 1 + 1 + 1 by omega]
  simp only [List.take_succ_cons,List.drop_succ_cons,List.cons_append,List.append_assoc]
theorem any_take_no {α:Type} {P:α → Bool} {l:List α} {i:Nat} {z:α} (h:(l.take i).any P = false) (hz:l[i]? = some z) (hp:P z = false):(l.take (i + 1)).any P = false:=by
  rw [take_succ' hz,List.any_append,h]; simp [hp]
theorem any_take_end {α:Type} {P:α → Bool} {l:List α} {i:Nat} (h:(l.take i).any P = false) (hi:l.length ≤ i):l.any P = false:=by
  rw [List.take_of_length_le hi] at h; exact h
theorem any_yes {α:Type} {P:α → Bool} {l:List α} {i:Nat} {z:α} (hz:l[i]? = some z) (hp:P z = true):l.any P = true:=List.any_eq_true.2 ⟨z,List.mem_of_getElem? hz,hp⟩
section
variable {m:MB} {z:Nat} {v:GViewID}
theorem ah_no1 (h:decide (((z:Nat):Int) ≠ ((m.self:Nat):Int)) = false):(decide (z ≠ m.self) && aboveV (m.other z).2 v) = false:=by
  rw [show decide (z ≠ m.self) = false from decide_eq_false (by have:=of_decide_eq_false h; omega)]; rfl
theorem ah_no2 (h:decide (0 < cmpV ((m.others.getD z (z0,z0)).2.N) ((m.others.getD z (z0,z0)).2.P) v.N v.P) = false):(decide (z ≠ m.self) && aboveV (m.other z).2 v) = false:=by
  rw [show aboveV (m.other z).2 v = false from h]; simp
theorem ah_yes (h1:decide (((z:Nat):Int) ≠ ((m.self:Nat):Int)) = true) (h:decide (0 < cmpV ((m.others.getD z (z0,z0)).2.N) ((m.others.getD z (z0,z0)).2.P) v.N v.P) = true):(decide (z ≠ m.self) && aboveV (m.other z).2 v) = true:=by
  rw [show aboveV (m.other z).2 v = true from h,show decide (z ≠ m.self) = true from decide_eq_true (by have:=of_decide_eq_true h1; omega)]; rfl
end
theorem opn_is (m:MB):m.opn = (decide ((0:Int) < ((m.cur.ID.N:Nat):Int)) && decide (m.cur.ID = m.prom)):=by
  unfold MB.opn; congr 1; exact decide_eq_decide.2 (by omega)
end Go.FM

set_option linter.unusedVariables false
set_option linter.unusedSimpArgs false
namespace Go.FM
open Go
def VLe (a b:GViewID):Prop:=a.N < b.N ∨ a.N = b.N∧a.P ≤ b.P
theorem vid_ext {a b:GViewID} (h1:a.N = b.N) (h2:a.P = b.P):a = b:=by cases a; cases b; simp_all
theorem VLe.refl (a:GViewID):VLe a a:=.inr ⟨rfl,Int.le_refl _⟩
theorem VLe.of_eq {a b:GViewID} (h:a = b):VLe a b:=h ▸ VLe.refl a
theorem VLe.trans {a b c:GViewID} (h:VLe a b) (k:VLe b c):VLe a c:=by unfold VLe at *; omega
theorem VLe.antisymm {a b:GViewID} (h:VLe a b) (k:VLe b a):a = b:=by
  unfold VLe at *; exact vid_ext (by omega) (by omega)
theorem VLe.N {a b:GViewID} (h:VLe a b):a.N ≤ b.N:=by unfold VLe at h; omega
theorem VLe.zero {a:GViewID} (h:0 ≤ a.P):VLe z0 a:=by
  unfold VLe z0; show 0 < a.N ∨ 0 = a.N∧0 ≤ a.P; omega
theorem above_iff {a b:GViewID}:aboveV a b = true ↔ ¬ VLe a b:=by
  unfold aboveV VLe
  rw [decide_eq_true_iff,cmpV_pos]; omega
theorem above_f {a b:GViewID}:aboveV a b = false ↔ VLe a b:=by
  rw [← Bool.not_eq_true,above_iff,Classical.not_not]
theorem VLe.of_not {a b:GViewID} (h:¬ VLe a b):VLe b a:=by unfold VLe at *; omega
structure GG where
  n:Nat
  ms:List MB
  bag:List GOut
  views:List (List GView)
def m00:MB:=MB.new 1 0
def GG.m (g:GG) (i:Nat):MB:=g.ms.getD i m00
def stOf (m:MB):GState:=⟨m.cur.ID,0,[]⟩
def vpost (views:List (List GView)) (i:Nat):Option GInstall → List (List GView)
  | none => views
  | some x => views.set i (views.getD i [] ++ [x.View])
def GG.post (g:GG) (i:Nat) (l:List GOut) (x:Option GInstall):GG:=⟨g.n,g.ms,g.bag ++ l,vpost g.views i x⟩
def GG.put (g:GG) (i:Nat) (m:MB):GG:=⟨g.n,g.ms.set i m,g.bag,g.views⟩
def GG.tickAt (g:GG) (i est:Nat):GG:=(g.put i ((g.m i).tick est (stOf (g.m i))).1).post i ((g.m i).tick est (stOf (g.m i))).2.1 ((g.m i).tick est (stOf (g.m i))).2.2
def GG.inAt (g:GG) (o:GOut):GG:=(g.put o.To.toNat ((g.m o.To.toNat).inn o.F (stOf (g.m o.To.toNat))).1).post o.To.toNat ((g.m o.To.toNat).inn o.F (stOf (g.m o.To.toNat))).2.1 ((g.m o.To.toNat).inn o.F (stOf (g.m o.To.toNat))).2.2.1
def GG.without (g:GG) (k:Nat):GG:=⟨g.n,g.ms,g.bag.eraseIdx k,g.views⟩
def frBeat (i:Nat) (m:MB):GFrame:=⟨1,(i:Int),z0,0,m.cur.ID,m.prom,[],0,[],[],0,0⟩
def GG.beatsTo (g:GG) (i:Nat) (k:Nat):List GOut:=((List.range k).filter (fun j => decide (j ≠ i))).map (fun (j:Nat) => GOut.mk (j:Int) (frBeat i (g.m i)))
def GG.beatAt (g:GG) (i:Nat):GG:=⟨g.n,g.ms,g.bag ++ g.beatsTo i g.n,g.views⟩
def fr0:GFrame:=⟨0,0,z0,0,z0,z0,[],0,[],[],0,0⟩
def o00:GOut:=⟨0,frBeat 0 m00⟩
def GG.comes (g:GG) (k:Nat) (keep hand:Bool):GG :=
  if g.bag = [] then g else
    (let g1:=if keep then g else g.without (k % g.bag.length)
     if hand then g1.inAt (g.bag.getD (k % g.bag.length) o00) else g1)
def GG.move (g:GG) (a:GMove):GG :=
  if a.Kind % 9 < 3 then g.tickAt (a.I % g.n) a.Est
  else if a.Kind % 9 < 8 then g.comes a.Est a.Keep (decide (a.Kind % 9 < 7))
  else g.beatAt (a.I % g.n)
def GG.begin_ (n:Nat):GG:=⟨n,(List.range n).map (MB.new n),[],List.replicate n []⟩
section
variable {g:GG} {i j n:Nat} {m:MB}
theorem put_m (h:i < g.ms.length) (j:Nat):(g.put i m).m j = if j = i then m else g.m j:=by
  unfold GG.put GG.m
  rw [List.getD_eq_getElem?_getD,List.getElem?_set,List.getD_eq_getElem?_getD]
  by_cases e:i = j
  · subst e; rw [if_pos rfl,if_pos h,if_pos rfl]; rfl
  · rw [if_neg e,if_neg (fun h => e h.symm)]
theorem begin_m (h:i < n):(GG.begin_ n).m i = MB.new n i:=by
  unfold GG.begin_ GG.m
  rw [List.getD_eq_getElem?_getD,List.getElem?_map,List.getElem?_range h]; rfl
end
def InLog (log:List GView) (x:GViewID):Prop:=x = z0 ∨ ∃ v ∈ log,v.ID = x
theorem InLog.mono {log log':List GView} {x:GViewID} (h:InLog log x) (hl:∀ v ∈ log,v ∈ log'):InLog log' x:=by
  rcases h with h | ⟨v,h1,h2⟩
  · exact .inl h
  · exact .inr ⟨v,hl v h1,h2⟩
structure LogOk (n B:Nat) (log:List GView):Prop where
  uniq:∀ v ∈ log,∀ u ∈ log,v.ID = u.ID → v = u
  pos:∀ v ∈ log,0 < v.ID.N∧v.ID.N ≤ B
  p:∀ v ∈ log,0 ≤ v.ID.P∧v.ID.P < (n:Int)
  set:∀ v ∈ log,has v.Set v.ID.P = true∧v.Set < 2 ^ n∧least v.Set = v.ID.P
theorem LogOk.idN {n B:Nat} {log:List GView} {x:GViewID} (h:LogOk n B log) (hx:InLog log x):x.N ≤ B:=by
  rcases hx with rfl | ⟨v,h1,rfl⟩
  · exact Nat.zero_le _
  · exact (h.pos v h1).2
structure NodeOk (log:List GView) (k i B:Nat) (m:MB):Prop where
  n:m.n = k
  self:m.self = i
  len:m.others.length = 16
  cur:m.cur = ⟨z0,0⟩ ∨ m.cur ∈ log∧has m.cur.Set (i:Int) = true
  cp:VLe m.cur.ID m.prom
  prom:InLog log m.prom
  high:m.prom.N ≤ m.high
  highB:m.high ≤ B
  pin:∀ p,m.prop = some p → p.v ∈ log∧p.v.ID.P = (i:Int)
  pno:∀ p,m.prop = some p → p.done = false → m.cur.ID ≠ p.v.ID∧p.who ≠ p.v.Set∧p.who < 2 ^ k∧has p.who (i:Int) = true
  pd:∀ p,m.prop = some p → p.done = true → p.who = p.v.Set
  pst:∀ p,m.prop = some p → (∀ s ∈ p.states,s.Floor = 0)∧p.states.length ≤ B
  mine:∀ v ∈ log,v.ID.P = (i:Int) → VLe v.ID m.prom
  own:m.cur.ID = m.prom → m.cur.ID.P = (i:Int) → 0 < m.cur.ID.N → ∃ p,m.prop = some p∧p.v = m.cur∧p.done = true
  oth:∀ j,InLog log (m.other j).1∧InLog log (m.other j).2∧(m.other j).2.N ≤ m.high
  jn:(∀ s ∈ m.joined,s.Floor = 0)∧m.joined.length ≤ B
structure FrOk (log:List GView) (n B:Nat) (f:GFrame):Prop where
  frm:0 ≤ f.From∧f.From < (n:Int)
  id:InLog log f.ID
  cur:InLog log f.Cur
  prom:InLog log f.Prom
  prop:f.Kind = 2 → (⟨f.ID,f.Set⟩:GView) ∈ log∧f.From = f.ID.P
  com:f.Kind = 5 → (⟨f.ID,f.Set⟩:GView) ∈ log∧f.From = f.ID.P
  acc:f.Kind = 3 → ∃ st,f.States = [st]
  st:(∀ s ∈ f.States,s.Floor = 0)∧f.States.length ≤ B
  set:f.Set < 65536
end Go.FM

set_option linter.unusedVariables false
set_option linter.unusedSimpArgs false
namespace Go.FM
open Go
theorem NodeOk.mono {log:List GView} {n i B B':Nat} {m:MB} (h:NodeOk log n i B m) (hb:B ≤ B'):NodeOk log n i B' m :=
  ⟨h.n,h.self,h.len,h.cur,h.cp,h.prom,h.high,Nat.le_trans h.highB hb,h.pin,h.pno,h.pd,fun p hp => ⟨(h.pst p hp).1,Nat.le_trans (h.pst p hp).2 hb⟩,h.mine,h.own,h.oth,⟨h.jn.1,Nat.le_trans h.jn.2 hb⟩⟩
theorem FrOk.mono {log log':List GView} {n B B':Nat} {f:GFrame} (h:FrOk log n B f) (hl:∀ v ∈ log,v ∈ log') (hb:B ≤ B'):FrOk log' n B' f :=
  ⟨h.frm,h.id.mono hl,h.cur.mono hl,h.prom.mono hl,fun k => ⟨hl _ (h.prop k).1,(h.prop k).2⟩,fun k => ⟨hl _ (h.com k).1,(h.com k).2⟩,h.acc,⟨h.st.1,Nat.le_trans h.st.2 hb⟩,h.set⟩
theorem LogOk.mono {log:List GView} {n B B':Nat} (h:LogOk n B log) (hb:B ≤ B'):LogOk n B' log:=⟨h.uniq,fun v hv => ⟨(h.pos v hv).1,Nat.le_trans (h.pos v hv).2 hb⟩,h.p,h.set⟩
theorem NodeOk.more {log:List GView} {n i B:Nat} {m:MB} {v:GView} (h:NodeOk log n i B m) (hv:v.ID.P ≠ (i:Int)):NodeOk (v::log) n i B m :=
  have hl:∀ u ∈ log,u ∈ v::log:=fun u hu => List.mem_cons_of_mem _ hu
  ⟨h.n,h.self,h.len,h.cur.imp id (fun k => ⟨hl _ k.1,k.2⟩),h.cp,h.prom.mono hl,h.high,h.highB,fun p hp => ⟨hl _ (h.pin p hp).1,(h.pin p hp).2⟩,h.pno,h.pd,h.pst,
    fun u hu e => by rcases List.mem_cons.1 hu with rfl | hu; exact absurd e hv; exact h.mine u hu e,h.own,fun j => ⟨(h.oth j).1.mono hl,(h.oth j).2.1.mono hl,(h.oth j).2.2⟩,h.jn⟩
structure StepOk (log:List GView) (n i B:Nat) (m m':MB) (f:GFrame) (ol:List GOut) (x:Option GInstall):Prop where
  node:NodeOk log n i B m'
  cur:VLe m.cur.ID m'.cur.ID
  prom:VLe m.prom m'.prom
  oth:∀ j,m'.other j = m.other j ∨ (f.Kind = 1∧f.From = (j:Int)∧m'.other j = (f.Cur,f.Prom))
  outs:∀ o ∈ ol,(0 ≤ o.To∧o.To < (n:Int))∧FrOk log n B o.F∧o.F.From = (i:Int)∧o.F.Kind ≠ 1∧(o.F.Kind = 3 → VLe o.F.ID m'.prom)∧(o.F.Kind = 5 → ∃ p',m'.prop = some p'∧p'.done = true∧o.F.ID = p'.v.ID)∧o.F.Kind ≠ 0
  len:ol.length ≤ n
  und:∀ p',m'.prop = some p' → p'.done = false → (∃ p,m.prop = some p∧p.v = p'.v∧p.done = false) ∨ (f.Kind = 0∧p'.v.ID.N = m.high + 1)
  who:∀ p',m'.prop = some p' → ∀ j:Nat,has p'.who (j:Int) = true → (∃ p,m.prop = some p∧p.v = p'.v∧has p.who (j:Int) = true) ∨ (f.Kind = 3∧f.From = (j:Int)∧f.ID = p'.v.ID) ∨ (j = i∧VLe p'.v.ID m'.prom)
  inst:∀ y,x = some y → y.View = m'.cur∧m'.cur.ID ≠ m.cur.ID∧m'.cur ∈ log∧has m'.cur.Set (i:Int) = true∧m'.cur.ID = m'.prom∧(m'.cur.ID.P ≠ (i:Int) → m'.cur.ID = m.prom∧f.Kind = 5∧f.ID = m'.cur.ID)
  noin:x = none → m'.cur = m.cur
section
variable {log:List GView} {n i B:Nat} {m m':MB} {f:GFrame} {st:GState} {p:GProp} {outs:List GOut} {x:Option GInstall}
theorem NodeOk.hear (h:NodeOk log n i B m) {v:GViewID} (hv:v.N ≤ B):NodeOk log n i B (m.hear v) :=
  ⟨h.n,h.self,h.len,h.cur,h.cp,h.prom,Nat.le_trans h.high (Nat.le_max_left _ _),Nat.max_le.2 ⟨h.highB,hv⟩,h.pin,h.pno,h.pd,h.pst,h.mine,h.own,fun j => ⟨(h.oth j).1,(h.oth j).2.1,Nat.le_trans (h.oth j).2.2 (Nat.le_max_left _ _)⟩,h.jn⟩
theorem StepOk.same (h:NodeOk log n i B m):StepOk log n i B m m f [] none :=
  ⟨h,VLe.refl _,VLe.refl _,fun j => .inl rfl,fun o ho => absurd ho List.not_mem_nil,Nat.zero_le _,fun p' hp hd => .inl ⟨p',hp,rfl,hd⟩,fun p' hp j hj => .inl ⟨p',hp,rfl,hj⟩,fun y hy => (by cases hy),fun _ => rfl⟩
theorem StepOk.of (hn:NodeOk log n i B m') (h1:m'.cur = m.cur) (h2:VLe m.prom m'.prom) (h3:m'.others = m.others) (h4:m'.prop = m.prop ∨ m'.prop = none)
    (ho:∀ o ∈ outs,(0 ≤ o.To∧o.To < (n:Int))∧FrOk log n B o.F∧o.F.From = (i:Int)∧o.F.Kind ≠ 1∧(o.F.Kind = 3 → VLe o.F.ID m'.prom)∧(o.F.Kind = 5 → ∃ p',m'.prop = some p'∧p'.done = true∧o.F.ID = p'.v.ID)∧o.F.Kind ≠ 0) (hl:outs.length ≤ n):StepOk log n i B m m' f outs none :=
  have hp:∀ p',m'.prop = some p' → m.prop = some p':=fun p' hp => by
    rcases h4 with h4 | h4
    · rw [← h4]; exact hp
    · rw [h4] at hp; cases hp
  ⟨hn,VLe.of_eq (by rw [h1]),h2,fun j => .inl (by unfold MB.other; rw [h3]),ho,hl,fun p' hq hd => .inl ⟨p',hp p' hq,rfl,hd⟩,fun p' hq j hj => .inl ⟨p',hp p' hq,rfl,hj⟩,fun y hy => (by cases hy),fun _ => h1⟩
theorem other_set {k:Nat} {c:GViewID × GViewID} (hk:k < m.others.length) (j:Nat):MB.other { m with others:=m.others.set k c } j = if j = k then c else m.other j:=by
  unfold MB.other
  show (m.others.set k c).getD j (z0,z0) = _
  rw [List.getD_eq_getElem?_getD,List.getElem?_set,List.getD_eq_getElem?_getD]
  by_cases e:k = j
  · subst e; rw [if_pos rfl,if_pos hk,if_pos rfl]; rfl
  · rw [if_neg e,if_neg (fun h => e h.symm)]
theorem step_beat (h:NodeOk log n i B m) (hl:LogOk n B log) (hn:n ≤ 16) (hf:FrOk log n B f) (hk:f.Kind = 1):StepOk log n i B m (({ m with others:=m.others.set f.From.toNat (f.Cur,f.Prom) }.hear f.Cur).hear f.Prom) f [] none:=by
  have hF:=hf.frm
  have hlen:=h.len
  have ho:∀ j,(({ m with others:=m.others.set f.From.toNat (f.Cur,f.Prom) }.hear f.Cur).hear f.Prom).other j = if j = f.From.toNat then (f.Cur,f.Prom) else m.other j:=fun j => other_set (m:=m) (by omega) j
  have hc:=hl.idN hf.cur
  have hp:=hl.idN hf.prom
  have hB:=h.highB
  have hm1:=h.high
  refine ⟨⟨h.n,h.self,by show (m.others.set _ _).length = 16; rw [List.length_set]; exact hlen,h.cur,h.cp,h.prom,?_,?_,h.pin,h.pno,h.pd,h.pst,h.mine,h.own,fun j => ?_,h.jn⟩,VLe.refl _,VLe.refl _,fun j => ?_,fun o ho => absurd ho List.not_mem_nil,Nat.zero_le _,fun p' hp hd => .inl ⟨p',hp,rfl,hd⟩,fun p' hp j hj => .inl ⟨p',hp,rfl,hj⟩,fun y hy => (by cases hy),fun _ => rfl⟩
  · show m.prom.N ≤ max (max m.high f.Cur.N) f.Prom.N; omega
  · show max (max m.high f.Cur.N) f.Prom.N ≤ B; omega
  · rw [ho]
    split
    · exact ⟨hf.cur,hf.prom,by show f.Prom.N ≤ max (max m.high f.Cur.N) f.Prom.N; omega⟩
    · have:=h.oth j
      exact ⟨this.1,this.2.1,by show (m.other j).2.N ≤ max (max m.high f.Cur.N) f.Prom.N; omega⟩
  · rw [ho]
    by_cases e:j = f.From.toNat
    · rw [if_pos e]; exact .inr ⟨hk,by omega,rfl⟩
    · rw [if_neg e]; exact .inl rfl
theorem frAccept_ok (h:NodeOk log n i B m) (hi:i < n) (hf:FrOk log n B f) (hB:1 ≤ B) (hs:st.Floor = 0):FrOk log n B (frAccept m.self f.ID st) :=
  ⟨by show (0:Int) ≤ (m.self:Int)∧(m.self:Int) < n; rw [h.self]; omega,hf.id,.inl rfl,.inl rfl,fun k => absurd k (by show (3:Nat) ≠ 2; decide),fun k => absurd k (by show (3:Nat) ≠ 5; decide),fun _ => ⟨st,rfl⟩,⟨fun s hs' => by rw [List.mem_singleton.1 hs']; exact hs,hB⟩,by show (0:Nat) < 65536; decide⟩
theorem step_propose (h:NodeOk log n i B m) (hl:LogOk n B log) (hi:i < n) (hn:n ≤ 16) (hf:FrOk log n B f) (hk:f.Kind = 2) (hne:f.From ≠ (m.self:Int)) (hB:1 ≤ B) (hs:st.Floor = 0) :
    StepOk log n i B m (m.propose f st).1 f (m.propose f st).2.1 (m.propose f st).2.2.1:=by
  have hF:=hf.frm
  have hN:=hl.idN hf.id
  have hself:=h.self
  unfold MB.propose
  split
  · exact StepOk.same h
  split
  · rename_i h1 h2
    have hab:=VLe.of_not (above_iff.1 h2)
    have hP:=(hf.prop hk).2
    refine StepOk.of ⟨h.n,h.self,h.len,h.cur,h.cp.trans hab,hf.id,Nat.le_max_right _ _,Nat.max_le.2 ⟨h.highB,hN⟩,h.pin,h.pno,h.pd,h.pst,fun v hv e => (h.mine v hv e).trans hab,fun e1 e2 _ => ?_,fun j => ⟨(h.oth j).1,(h.oth j).2.1,Nat.le_trans (h.oth j).2.2 (Nat.le_max_left _ _)⟩,h.jn⟩ rfl hab rfl (.inl rfl) ?_ (by show 1 ≤ n; omega)
    · have e1:m.cur.ID = f.ID:=e1
      have e2:m.cur.ID.P = (i:Int):=e2
      rw [e1] at e2; exact absurd (hP.trans e2) (by rw [← hself]; exact hne)
    · intro o ho
      rw [List.mem_singleton.1 ho]
      exact ⟨hF,frAccept_ok h hi hf hB hs,by show (m.self:Int) = i; rw [hself],by show (3:Nat) ≠ 1; decide,fun _ => VLe.refl _,fun k => absurd k (by show (3:Nat) ≠ 5; decide),by show (3:Nat) ≠ 0; decide⟩
  split
  · refine StepOk.of (h.hear hN) rfl (VLe.refl _) rfl (.inl rfl) ?_ (by show 1 ≤ n; omega)
    intro o ho
    rw [List.mem_singleton.1 ho]
    refine ⟨hF,⟨by show (0:Int) ≤ (m.self:Int)∧(m.self:Int) < n; omega,hf.id,.inl rfl,h.prom,fun k => absurd k (by show (4:Nat) ≠ 2; decide),fun k => absurd k (by show (4:Nat) ≠ 5; decide),fun k => absurd k (by show (4:Nat) ≠ 3; decide),⟨fun s hs => absurd hs List.not_mem_nil,Nat.zero_le _⟩,by show (0:Nat) < 65536; decide⟩,by show (m.self:Int) = i; rw [hself],by show (4:Nat) ≠ 1; decide,fun k => absurd k (by show (4:Nat) ≠ 3; decide),fun k => absurd k (by show (4:Nat) ≠ 5; decide),by show (4:Nat) ≠ 0; decide⟩
  · rename_i h1 h2 h3
    refine StepOk.of (h.hear hN) rfl (VLe.refl _) rfl (.inl rfl) ?_ (by show 1 ≤ n; omega)
    intro o ho
    rw [List.mem_singleton.1 ho]
    exact ⟨hF,frAccept_ok h hi hf hB hs,by show (m.self:Int) = i; rw [hself],by show (3:Nat) ≠ 1; decide,fun _ => VLe.of_eq (Classical.not_not.1 (fun k => h3 (.inl k))),fun k => absurd k (by show (3:Nat) ≠ 5; decide),by show (3:Nat) ≠ 0; decide⟩
theorem has_wth {s z:Nat} (hz:z < 16) (j:Nat):has (wth s (z:Int)) (j:Int) = true ↔ has s (j:Int) = true ∨ j = z:=by
  unfold has
  rw [decide_eq_true_iff,decide_eq_true_iff,Int.toNat_natCast]
  have:=wth_bit (a:=s) (z:=z) (j:=j) hz
  constructor
  · rintro ⟨h1,h2,h3⟩
    rcases this.1 h3 with h | h
    · exact .inl ⟨h1,h2,h⟩
    · exact .inr h
  · rintro (⟨h1,h2,h3⟩ | h)
    · exact ⟨h1,h2,this.2 (.inl h3)⟩
    · exact ⟨by omega,by omega,this.2 (.inr h)⟩
theorem lt_pow_bits {a n:Nat} (h:a < 2 ^ n) {j:Nat} (hj:n ≤ j):¬ a / 2 ^ j % 2 = 1:=by
  rw [← testBit_iff,Nat.testBit_lt_two_pow (Nat.lt_of_lt_of_le h (Nat.pow_le_pow_right (by decide) hj))]; decide
theorem has_lt {a n j:Nat} (h:a < 2 ^ n) (hj:has a (j:Int) = true):j < n:=by
  rcases Nat.lt_or_ge j n with h1 | h1
  · exact h1
  · have:=of_decide_eq_true hj
    rw [Int.toNat_natCast] at this
    exact absurd this.2.2 (lt_pow_bits h h1)
theorem wth_pow {a n z:Nat} (h:a < 2 ^ n) (hz:z < n):wth a (z:Int) < 2 ^ n:=by
  unfold wth
  split
  · exact Nat.or_lt_two_pow h (by rw [Int.toNat_natCast]; exact Nat.pow_lt_pow_right (by decide) hz)
  · exact h
theorem has_wto {s z j:Nat} (hz:z < 16) (hs:s < 65536) (h:has (wto s (z:Int)) (j:Int) = true):has s (j:Int) = true∧j ≠ z:=by
  have h1:=of_decide_eq_true h
  rw [Int.toNat_natCast] at h1
  have:=(wto_bit (a:=s) (z:=z) (j:=j) hz (by omega) hs).1 h1.2.2
  exact ⟨decide_eq_true (by rw [Int.toNat_natCast]; exact ⟨h1.1,h1.2.1,this.1⟩),this.2⟩
theorem lst_len {s n:Nat} (h:s < 2 ^ n):(lst s).length ≤ n:=by rw [lst_length]; exact pc_lt 16 n s h
theorem wto_pow {a n:Nat} {z:Int} (ha:a < 65536) (h:a < 2 ^ n):wto a z < 2 ^ n:=by
  unfold wto
  split
  · exact Nat.lt_of_le_of_lt Nat.and_le_left h
  · exact h
theorem lst_len16 (s:Nat):(lst s).length ≤ 16:=by rw [lst_length]; exact pc_le 16 s
theorem commit_ok {j:Nat} (h:NodeOk log n i B m) (hi:i < n) (hv:p.v ∈ log) (hP:p.v.ID.P = (i:Int)) (hset:p.v.Set < 65536):FrOk log n B (m.commit p j).F :=
  ⟨by show (0:Int) ≤ (m.self:Int)∧(m.self:Int) < n; rw [h.self]; omega,.inr ⟨p.v,hv,rfl⟩,.inl rfl,.inl rfl,fun k => absurd k (by show (5:Nat) ≠ 2; decide),fun _ => ⟨hv,by show (m.self:Int) = p.v.ID.P; rw [h.self,hP]⟩,fun k => absurd k (by show (5:Nat) ≠ 3; decide),h.jn,hset⟩
theorem pow16 {n:Nat} (hn:n ≤ 16) {a:Nat} (h:a < 2 ^ n):a < 65536:=Nat.lt_of_lt_of_le h (by have:2 ^ n ≤ 2 ^ 16:=Nat.pow_le_pow_right (by decide) hn; simpa using this)
theorem step_accept (h:NodeOk log n i B m) (hl:LogOk n B log) (hi:i < n) (hn:n ≤ 16) (hf:FrOk log n B f) (hk:f.Kind = 3) :
    StepOk log n i (B + 1) m (m.accept f).1 f (m.accept f).2.1 (m.accept f).2.2.1:=by
  have hF:=hf.frm
  have hself:=h.self
  have hB:=Nat.le_succ B
  unfold MB.accept
  cases hp:m.prop with
  | none => exact StepOk.same (h.mono hB)
  | some p =>
    simp only []
    split
    · rename_i hok
      obtain ⟨⟨⟨⟨⟨hd,hid⟩,hpr⟩,hset⟩,hnw⟩,hlen⟩:((((p.done = false∧p.v.ID = f.ID)∧m.prom = f.ID)∧has p.v.Set f.From = true)∧has p.who f.From = false)∧f.States.length = 1:=by
        unfold MB.acceptOk at hok
        simpa [Bool.and_eq_true,and_assoc] using hok
      obtain ⟨hpin,hpP⟩:=h.pin p hp
      obtain ⟨hp1,hp2,hp3,hp4⟩:=h.pno p hp hd
      obtain ⟨hs1,hs2⟩:=h.pst p hp
      obtain ⟨z,hz⟩:∃ z:Nat,f.From = (z:Int):=⟨f.From.toNat,by omega⟩
      have hzn:z < n:=by omega
      have hnown:¬ (m.cur.ID = m.prom):=fun e => hp1 (e.trans (hpr.trans hid.symm))
      have hst1:∀ s ∈ p.states ++ f.States,s.Floor = 0:=fun s hs => by
        rcases List.mem_append.1 hs with h1 | h1
        · exact hs1 s h1
        · exact hf.st.1 s h1
      have hst2:(p.states ++ f.States).length ≤ B + 1:=by rw [List.length_append,hlen]; omega
      have hset16:=pow16 hn (hl.set _ hpin).2.1
      have hwho:∀ j:Nat,has (wth p.who f.From) (j:Int) = true → has p.who (j:Int) = true ∨ f.From = (j:Int):=fun j hj => by
        rw [hz] at hj
        rcases (has_wth (by omega) j).1 hj with h1 | h1
        · exact .inl h1
        · exact .inr (by omega)
      unfold MB.agree
      by_cases hw:wth p.who f.From ≠ p.v.Set
      · rw [if_pos hw]
        refine ⟨⟨h.n,h.self,h.len,h.cur,h.cp,h.prom,h.high,Nat.le_trans h.highB hB,?_,?_,fun q hq hd2 => ?_,?_,h.mine,fun e _ _ => absurd e hnown,h.oth,⟨h.jn.1,Nat.le_trans h.jn.2 hB⟩⟩,VLe.refl _,VLe.refl _,fun j => .inl rfl,fun o ho => absurd ho List.not_mem_nil,Nat.zero_le _,fun q hq _ => ?_,?_,fun y hy => (by cases hy),fun _ => rfl⟩
        · intro q hq; cases hq; exact ⟨hpin,hpP⟩
        · intro q hq _; cases hq
          exact ⟨hp1,hw,by rw [hz]; exact wth_pow hp3 hzn,by rw [hz]; exact (has_wth (by omega) i).2 (.inl hp4)⟩
        · cases hq
          have hd2:p.done = true:=hd2
          rw [hd] at hd2; cases hd2
        · intro q hq; cases hq; exact ⟨hst1,hst2⟩
        · cases hq; exact .inl ⟨p,hp,rfl,hd⟩
        · intro q hq j hj; cases hq
          rcases hwho j hj with h1 | h1
          · exact .inl ⟨p,hp,rfl,h1⟩
          · exact .inr (.inl ⟨hk,h1,hid.symm⟩)
      · rw [if_neg hw]
        have hcu:(p.v:GView) = ⟨z0,0⟩ ∨ p.v ∈ log∧has p.v.Set (i:Int) = true:=.inr ⟨hpin,by rw [← hpP]; exact (hl.set _ hpin).1⟩
        have hno:NodeOk log n i (B + 1) { m with prop:=some { p with who:=wth p.who f.From,done:=true,states:=[] },joined:=joinS (p.states ++ f.States),cur:=p.v }:=by
          refine ⟨h.n,h.self,h.len,hcu,VLe.of_eq (hid.trans hpr.symm),h.prom,h.high,Nat.le_trans h.highB hB,?_,?_,fun q hq _ => ?_,?_,h.mine,fun _ _ _ => ⟨_,rfl,rfl,rfl⟩,h.oth,⟨fun s hs => hst1 s (joinS_sub hs),Nat.le_trans (joinTo_length _ _) hst2⟩⟩
          · intro q hq; cases hq; exact ⟨hpin,hpP⟩
          · intro q hq hd2; cases hq; cases hd2
          · cases hq; exact Classical.not_not.1 hw
          · intro q hq; cases hq; exact ⟨fun s hs => absurd hs List.not_mem_nil,Nat.zero_le _⟩
        refine ⟨hno,by show VLe m.cur.ID p.v.ID; rw [hid,← hpr]; exact h.cp,VLe.refl _,fun j => .inl rfl,?_,?_,fun q hq hd2 => ?_,?_,?_,fun e => (by cases e)⟩
        · intro o ho
          obtain ⟨z',hz',rfl⟩:=List.mem_map.1 ho
          have h9:=has_wto (by rw [hself]; omega) hset16 (has_lst.1 hz')
          have h10:=has_lt (hl.set _ hpin).2.1 h9.1
          exact ⟨by show (0:Int) ≤ (z':Int)∧(z':Int) < n; omega,commit_ok hno hi hpin hpP hset16,by show (m.self:Int) = i; rw [hself],by show (5:Nat) ≠ 1; decide,fun k => absurd k (by show (5:Nat) ≠ 3; decide),fun _ => ⟨_,rfl,rfl,rfl⟩,by show (5:Nat) ≠ 0; decide⟩
        · rw [List.length_map]; exact lst_len (wto_pow hset16 (hl.set _ hpin).2.1)
        · cases hq; cases hd2
        · intro q hq j hj; cases hq
          rcases hwho j hj with h1 | h1
          · exact .inl ⟨p,hp,rfl,h1⟩
          · exact .inr (.inl ⟨hk,h1,hid.symm⟩)
        · intro y hy; cases hy
          exact ⟨rfl,fun e => hp1 e.symm,hpin,by rw [← hpP]; exact (hl.set _ hpin).1,hid.trans hpr.symm,fun k => absurd hpP k⟩
    · exact StepOk.same (h.mono hB)
theorem step_refuse (h:NodeOk log n i B m) (hl:LogOk n B log) (hf:FrOk log n B f) :
    StepOk log n i B m (match m.prop with | none => m.hear f.Prom | some p => if p.v.ID = f.ID∧p.done = false∧aboveV f.Prom f.ID = true then { m.hear f.Prom with prop:=none } else m.hear f.Prom) f [] none:=by
  have hN:=hl.idN hf.prom
  have h2:=h.hear hN
  have hs:StepOk log n i B m (m.hear f.Prom) f [] none:=StepOk.of h2 rfl (VLe.refl _) rfl (.inl rfl) (fun o ho => absurd ho List.not_mem_nil) (Nat.zero_le _)
  cases hp:m.prop with
  | none => exact hs
  | some p =>
    simp only []
    split
    · rename_i hc
      refine StepOk.of ⟨h2.n,h2.self,h2.len,h2.cur,h2.cp,h2.prom,h2.high,h2.highB,fun q hq => (by cases hq),fun q hq => (by cases hq),fun q hq => (by cases hq),fun q hq => (by cases hq),h2.mine,fun e1 e2 e3 => ?_,h2.oth,h2.jn⟩ rfl (VLe.refl _) rfl (.inr rfl) (fun o ho => absurd ho List.not_mem_nil) (Nat.zero_le _)
      obtain ⟨q,hq,_,hd⟩:=h.own e1 e2 e3
      rw [hp] at hq; cases hq
      rw [hc.2.1] at hd; cases hd
    · exact hs
theorem step_commit (h:NodeOk log n i B m) (hl:LogOk n B log) (hi:i < n) (hf:FrOk log n B f) (hk:f.Kind = 5) (hne:f.From ≠ (m.self:Int)) (hc:¬ (f.ID ≠ m.prom ∨ m.cur.ID = f.ID ∨ has f.Set m.self = false ∨ f.ID.P ≠ f.From)) :
    StepOk log n i B m { m with cur:=⟨f.ID,f.Set⟩ } f [] (some ⟨⟨f.ID,f.Set⟩,f.States⟩):=by
  have hself:=h.self
  have h1:f.ID = m.prom:=Classical.not_not.1 fun k => hc (.inl k)
  have h2:m.cur.ID ≠ f.ID:=fun k => hc (.inr (.inl k))
  have h3:has f.Set (i:Int) = true:=by
    rw [← hself]
    cases e:has f.Set m.self with
    | true => rfl
    | false => exact absurd (.inr (.inr (.inl e))) hc
  have h4:f.ID.P = f.From:=Classical.not_not.1 fun k => hc (.inr (.inr (.inr k)))
  have h5:f.ID.P ≠ (i:Int):=by rw [h4,← hself]; exact hne
  refine ⟨⟨h.n,h.self,h.len,.inr ⟨(hf.com hk).1,h3⟩,VLe.of_eq h1,h.prom,h.high,h.highB,h.pin,fun p hp hd => ⟨fun e => ?_,(h.pno p hp hd).2⟩,h.pd,h.pst,h.mine,fun _ e _ => absurd e h5,h.oth,h.jn⟩,by show VLe m.cur.ID f.ID; rw [h1]; exact h.cp,VLe.refl _,fun j => .inl rfl,fun o ho => absurd ho List.not_mem_nil,Nat.zero_le _,fun p' hp hd => .inl ⟨p',hp,rfl,hd⟩,fun p' hp j hj => .inl ⟨p',hp,rfl,hj⟩,fun y hy => ?_,fun e => (by cases e)⟩
  · have e:f.ID = p.v.ID:=e
    exact h5 (by rw [e]; exact (h.pin p hp).2)
  · cases hy
    exact ⟨rfl,fun e => h2 e.symm,(hf.com hk).1,h3,h1,fun _ => ⟨h1,hk,rfl⟩⟩
theorem StepOk.mono (h:StepOk log n i B m m' f outs x) {B':Nat} (hb:B ≤ B'):StepOk log n i B' m m' f outs x :=
  ⟨h.node.mono hb,h.cur,h.prom,h.oth,fun o ho => ⟨(h.outs o ho).1,(h.outs o ho).2.1.mono (fun _ hv => hv) hb,(h.outs o ho).2.2⟩,h.len,h.und,h.who,h.inst,h.noin⟩
theorem inn_step (h:NodeOk log n i B m) (hl:LogOk n B log) (hi:i < n) (hn:n ≤ 16) (hf:FrOk log n B f) (hB:1 ≤ B) (hs:st.Floor = 0) :
    StepOk log n i (B + 1) m (m.inn f st).1 f (m.inn f st).2.1 (m.inn f st).2.2.1:=by
  have hB1:=Nat.le_succ B
  unfold MB.inn
  by_cases h0:f.From < 0 ∨ (m.n:Int) ≤ f.From ∨ f.From = (m.self:Int)
  · rw [if_pos h0]; exact StepOk.same (h.mono hB1)
  rw [if_neg h0]
  have hne:f.From ≠ (m.self:Int):=fun e => h0 (.inr (.inr e))
  by_cases h1:f.Kind = 1
  · rw [if_pos h1]; exact (step_beat h hl hn hf h1).mono hB1
  rw [if_neg h1]
  by_cases h2:f.Kind = 2
  · rw [if_pos h2]; exact (step_propose h hl hi hn hf h2 hne hB hs).mono hB1
  rw [if_neg h2]
  by_cases h3:f.Kind = 3
  · rw [if_pos h3]; exact step_accept h hl hi hn hf h3
  rw [if_neg h3]
  by_cases h4:f.Kind = 4
  · rw [if_pos h4]
    have hr:=(step_refuse h hl hf).mono hB1
    cases hp:m.prop with
    | none => rw [hp] at hr; exact hr
    | some p =>
      rw [hp] at hr
      simp only [] at hr ⊢
      split
      · rename_i hc; rw [if_pos hc] at hr; exact hr
      · rename_i hc; rw [if_neg hc] at hr; exact hr
  rw [if_neg h4]
  by_cases h5:f.Kind = 5
  · rw [if_pos h5]
    split
    · exact StepOk.same (h.mono hB1)
    · rename_i hc; exact (step_commit h hl hi hf h5 hne hc).mono hB1
  rw [if_neg h5]; exact StepOk.same (h.mono hB1)
end
end Go.FM

set_option linter.unusedVariables false
set_option linter.unusedSimpArgs false
namespace Go.FM
open Go
section
variable {log:List GView} {n i B:Nat} {m m':MB} {f:GFrame} {st:GState} {p:GProp} {outs:List GOut} {x:Option GInstall}
theorem propose_ok (h:NodeOk log n i B m) (hi:i < n) (hv:p.v ∈ log) (hP:p.v.ID.P = (i:Int)) (hset:p.v.Set < 65536):FrOk log n B (frPropose m.self p.v) :=
  ⟨by show (0:Int) ≤ (m.self:Int)∧(m.self:Int) < n; rw [h.self]; omega,.inr ⟨p.v,hv,rfl⟩,.inl rfl,.inl rfl,fun _ => ⟨hv,by show (m.self:Int) = p.v.ID.P; rw [h.self,hP]⟩,fun k => absurd k (by show (2:Nat) ≠ 5; decide),fun k => absurd k (by show (2:Nat) ≠ 3; decide),⟨fun s hs => absurd hs List.not_mem_nil,Nat.zero_le _⟩,hset⟩
theorem again1_len (m:MB) (p:GProp) (z:Nat):(m.again1 p z).length ≤ 1:=by
  unfold MB.again1
  split
  · exact Nat.zero_le _
  split
  · exact Nat.le_refl _
  split
  · exact Nat.le_refl _
  · exact Nat.zero_le _
theorem flat_len {α β:Type} {f:α → List β} (h:∀ a,(f a).length ≤ 1):∀ (l:List α),(l.flatMap f).length ≤ l.length
  | [] => Nat.le_refl _
  | a::l => by
    rw [List.flatMap_cons,List.length_append,List.length_cons]
    have:=flat_len h l; have:=h a; omega
theorem again_len (h:NodeOk log n i B m) (hl:LogOk n B log):m.again.length ≤ n:=by
  unfold MB.again
  cases hp:m.prop with
  | none => exact Nat.zero_le _
  | some p =>
    simp only []
    split
    · exact Nat.zero_le _
    · exact Nat.le_trans (flat_len (again1_len m p) _) (lst_len (hl.set _ (h.pin p hp).1).2.1)
theorem again_mem {o:GOut} (ho:o ∈ m.again):∃ p z,m.prop = some p∧m.prom = p.v.ID∧has p.v.Set ((z:Nat):Int) = true∧z ≠ m.self∧((p.done = true∧(m.other z).1 ≠ p.v.ID∧o = m.commit p z) ∨ (p.done = false∧has p.who (z:Int) = false∧o = ⟨(z:Int),frPropose m.self p.v⟩)):=by
  unfold MB.again at ho
  cases hp:m.prop with
  | none => rw [hp] at ho; cases ho
  | some p =>
    rw [hp] at ho
    simp only [] at ho
    split at ho
    · cases ho
    · rename_i he
      obtain ⟨z,hz,ho⟩:=List.mem_flatMap.1 ho
      refine ⟨p,z,rfl,Classical.not_not.1 he,has_lst.1 hz,?_⟩
      unfold MB.again1 at ho
      split at ho
      · cases ho
      · rename_i hs
        refine ⟨hs,?_⟩
        split at ho
        · rename_i hd; exact .inl ⟨hd.1,hd.2,List.mem_singleton.1 ho⟩
        split at ho
        · rename_i hd; exact .inr ⟨hd.1,hd.2,List.mem_singleton.1 ho⟩
        · cases ho
theorem again_in {p:GProp} {z:Nat} (hp:m.prop = some p) (he:m.prom = p.v.ID) (hz:has p.v.Set (z:Int) = true) (hs:z ≠ m.self) {o:GOut} (ho:o ∈ m.again1 p z):o ∈ m.again:=by
  unfold MB.again
  rw [hp]
  simp only []
  rw [if_neg (Classical.not_not.2 he)]
  exact List.mem_flatMap.2 ⟨z,has_lst.2 hz,ho⟩
theorem again_ok (h:NodeOk log n i B m) (hl:LogOk n B log) (hi:i < n) (hn:n ≤ 16):∀ o ∈ m.again,(0 ≤ o.To∧o.To < (n:Int))∧FrOk log n B o.F∧o.F.From = (i:Int)∧o.F.Kind ≠ 1∧(o.F.Kind = 3 → VLe o.F.ID m.prom)∧(o.F.Kind = 5 → ∃ p',m.prop = some p'∧p'.done = true∧o.F.ID = p'.v.ID)∧o.F.Kind ≠ 0:=by
  intro o ho
  obtain ⟨p,z,hp,hpr,hz,hzs,hc⟩:=again_mem ho
  obtain ⟨hpin,hpP⟩:=h.pin p hp
  have hset:=(hl.set _ hpin).2.1
  have hzn:=has_lt hset hz
  have hself:=h.self
  rcases hc with ⟨hd,_,rfl⟩ | ⟨hd,hw,rfl⟩
  · exact ⟨by show (0:Int) ≤ (z:Int)∧(z:Int) < n; omega,commit_ok h hi hpin hpP (pow16 hn hset),by show (m.self:Int) = i; rw [hself],by show (5:Nat) ≠ 1; decide,fun k => absurd k (by show (5:Nat) ≠ 3; decide),fun _ => ⟨p,hp,hd,rfl⟩,by show (5:Nat) ≠ 0; decide⟩
  · exact ⟨by show (0:Int) ≤ (z:Int)∧(z:Int) < n; omega,propose_ok h hi hpin hpP (pow16 hn hset),by show (m.self:Int) = i; rw [hself],by show (2:Nat) ≠ 1; decide,fun k => absurd k (by show (2:Nat) ≠ 3; decide),fun k => absurd k (by show (2:Nat) ≠ 5; decide),by show (2:Nat) ≠ 0; decide⟩
theorem est_facts (h:NodeOk log n i B m) (hi:i < n) (hn:n ≤ 16) (e:Nat):has (m.est e) (i:Int) = true∧m.est e < 2 ^ n:=by
  unfold MB.est
  rw [h.n,h.self]
  exact ⟨(has_wth (by omega) i).2 (.inr rfl),wth_pow (mask_lt e) hi⟩
def MB.tlog (m:MB) (e:Nat) (st:GState) (log:List GView):List GView :=
  if least (m.est e) = (m.self:Int)∧m.need (m.est e) = true∧m.under (m.est e) = false then (m.prop1 (m.est e) st).v::log else log
theorem tick_no {e:Nat} (h:¬ (least (m.est e) = (m.self:Int)∧m.need (m.est e) = true∧m.under (m.est e) = false)):m.tick e st = (m,m.again,none):=by
  unfold MB.tick; rw [if_neg h]
theorem wth_zero (i:Nat) (hi:i < 16) (j:Nat):has (wth 0 (i:Int)) (j:Int) = true → j = i:=fun h => by
  rcases (has_wth hi j).1 h with h1 | h1
  · have h2:=(of_decide_eq_true h1).2.2
    rw [Nat.zero_div] at h2
    exact absurd h2 (by decide)
  · exact h1
theorem tick_step (h:NodeOk log n i B m) (hl:LogOk n B log) (hi:i < n) (hn:n ≤ 16) (hB:B < 4611686018427387904) (e:Nat) (hs:st.Floor = 0) :
    LogOk n (B + 1) (m.tlog e st log)∧StepOk (m.tlog e st log) n i (B + 1) m (m.tick e st).1 fr0 (m.tick e st).2.1 (m.tick e st).2.2:=by
  have hB1:=Nat.le_succ B
  unfold MB.tlog
  by_cases hc:least (m.est e) = (m.self:Int)∧m.need (m.est e) = true∧m.under (m.est e) = false
  · rw [if_pos hc]
    obtain ⟨he1,he2⟩:=est_facts h hi hn e
    have hself:=h.self
    generalize hE:m.est e = E at *
    have hhi:=h.highB
    have hph:=h.high
    have hcp:=h.cp.N
    have hv:(m.prop1 E st).v = ⟨⟨m.high + 1,(i:Int)⟩,E⟩:=by
      unfold MB.prop1; rw [Nat.mod_eq_of_lt (show m.high + 1 < 18446744073709551616 by omega),hself]
    have hnew:∀ u ∈ log,u.ID.P = (i:Int) → u.ID.N ≤ m.high:=fun u hu e1 => Nat.le_trans (h.mine u hu e1).N hph
    have hlog:LogOk n (B + 1) ((m.prop1 E st).v::log):=by
      rw [hv]
      refine ⟨fun v hv u hu e1 => ?_,fun v hv => ?_,fun v hv => ?_,fun v hv => ?_⟩
      · rcases List.mem_cons.1 hv with rfl | hv <;> rcases List.mem_cons.1 hu with rfl | hu
        · rfl
        · have h1:=hnew u hu (by rw [← e1]); rw [← e1] at h1; exact absurd h1 (by show ¬ m.high + 1 ≤ m.high; omega)
        · have h1:=hnew v hv (by rw [e1]); rw [e1] at h1; exact absurd h1 (by show ¬ m.high + 1 ≤ m.high; omega)
        · exact hl.uniq v hv u hu e1
      · rcases List.mem_cons.1 hv with rfl | hv
        · exact ⟨Nat.succ_pos _,by show m.high + 1 ≤ B + 1; omega⟩
        · have:=hl.pos v hv; omega
      · rcases List.mem_cons.1 hv with rfl | hv
        · show (0:Int) ≤ (i:Int)∧(i:Int) < n; omega
        · exact hl.p v hv
      · rcases List.mem_cons.1 hv with rfl | hv
        · exact ⟨he1,he2,by show least E = (i:Int); rw [← hself]; exact hc.1⟩
        · exact hl.set v hv
    refine ⟨hlog,?_⟩
    have hmem:(⟨⟨m.high + 1,(i:Int)⟩,E⟩:GView) ∈ (m.prop1 E st).v::log:=by rw [hv]; exact List.mem_cons_self
    have hsub:∀ u ∈ log,u ∈ (m.prop1 E st).v::log:=fun u hu => List.mem_cons_of_mem _ hu
    have hle:VLe m.prom ⟨m.high + 1,(i:Int)⟩:=.inl (by show m.prom.N < m.high + 1; omega)
    have hcne:m.cur.ID ≠ ⟨m.high + 1,(i:Int)⟩:=fun e1 => by rw [e1] at hcp; exact absurd hcp (by show ¬ m.high + 1 ≤ _; omega)
    have hw0:has (wth 0 (i:Int)) (i:Int) = true:=(has_wth (by omega) i).2 (.inr rfl)
    have hwl:wth 0 (i:Int) < 2 ^ n:=wth_pow (Nat.pos_of_ne_zero (by simp)) hi
    have hmine:∀ v ∈ (m.prop1 E st).v::log,v.ID.P = (i:Int) → VLe v.ID ⟨m.high + 1,(i:Int)⟩:=fun v hv' e1 => by
      rcases List.mem_cons.1 hv' with h1 | h1
      · rw [h1,hv]; exact VLe.refl _
      · exact (h.mine v h1 e1).trans hle
    have hmod:(m.high + 1) % 18446744073709551616 = m.high + 1:=Nat.mod_eq_of_lt (by omega)
    have hpr:m.prop1 E st = ⟨⟨⟨m.high + 1,(i:Int)⟩,E⟩,wth 0 (i:Int),[st],false⟩:=by
      unfold MB.prop1; rw [hmod,hself]
    have hoth:∀ j,InLog ((m.prop1 E st).v::log) (m.other j).1∧InLog ((m.prop1 E st).v::log) (m.other j).2∧(m.other j).2.N ≤ m.high + 1:=fun j => ⟨(h.oth j).1.mono hsub,(h.oth j).2.1.mono hsub,by have:=(h.oth j).2.2; omega⟩
    have hjn:(∀ s ∈ m.joined,s.Floor = 0)∧m.joined.length ≤ B + 1:=⟨h.jn.1,Nat.le_trans h.jn.2 hB1⟩
    unfold MB.tick
    rw [hE,if_pos hc]
    unfold MB.ticks MB.agree
    by_cases hw:(m.prop1 E st).who ≠ (m.prop1 E st).v.Set
    · rw [if_pos hw]
      have hno:NodeOk ((m.prop1 E st).v::log) n i (B + 1) { m with high:=(m.high + 1) % 18446744073709551616,prom:=(m.prop1 E st).v.ID,prop:=some (m.prop1 E st) }:=by
        rw [hmod]
        refine ⟨h.n,h.self,h.len,h.cur.imp id (fun k => ⟨hsub _ k.1,k.2⟩),?_,?_,?_,by show m.high + 1 ≤ B + 1; omega,?_,?_,fun q hq hd => ?_,?_,?_,?_,hoth,hjn⟩
        · show VLe m.cur.ID (m.prop1 E st).v.ID; rw [hv]; exact h.cp.trans hle
        · exact .inr ⟨_,List.mem_cons_self,rfl⟩
        · show (m.prop1 E st).v.ID.N ≤ m.high + 1; rw [hv]; exact Nat.le_refl _
        · intro q hq; cases hq; exact ⟨List.mem_cons_self,by rw [hv]⟩
        · intro q hq _; cases hq
          refine ⟨by rw [hv]; exact hcne,hw,by rw [hpr]; exact hwl,by rw [hpr]; exact hw0⟩
        · cases hq; rw [hpr] at hd; cases hd
        · intro q hq; cases hq; rw [hpr]
          exact ⟨fun s hs' => by rw [List.mem_singleton.1 hs']; exact hs,by show 1 ≤ B + 1; omega⟩
        · show ∀ v ∈ (m.prop1 E st).v::log,v.ID.P = (i:Int) → VLe v.ID (m.prop1 E st).v.ID; rw [hv] at hmine ⊢; exact hmine
        · intro e1 _ _
          have e1:m.cur.ID = (m.prop1 E st).v.ID:=e1
          rw [hv] at e1; exact absurd e1 hcne
      refine ⟨hno,VLe.refl _,by show VLe m.prom (m.prop1 E st).v.ID; rw [hv]; exact hle,fun j => .inl rfl,again_ok hno hlog hi hn,again_len hno hlog,fun q hq _ => ?_,?_,fun y hy => (by cases hy),fun _ => rfl⟩
      · cases hq; exact .inr ⟨rfl,by rw [hv]⟩
      intro q hq j hj; cases hq
      refine .inr (.inr ⟨wth_zero i (by omega) j (by rw [hpr] at hj; exact hj),VLe.refl _⟩)
    · rw [if_neg hw]
      have hset:has (m.prop1 E st).v.Set (i:Int) = true:=by rw [hv]; exact he1
      refine ⟨⟨h.n,h.self,h.len,.inr ⟨List.mem_cons_self,hset⟩,VLe.refl _,.inr ⟨_,List.mem_cons_self,rfl⟩,?_,?_,?_,?_,fun q hq _ => ?_,?_,?_,fun _ _ _ => ⟨_,rfl,rfl,rfl⟩,?_,?_⟩,?_,?_,fun j => .inl rfl,fun o ho => absurd ho List.not_mem_nil,Nat.zero_le _,fun q hq hd => ?_,?_,fun y hy => ?_,fun e1 => (by cases e1)⟩
      · show (m.prop1 E st).v.ID.N ≤ (m.high + 1) % 18446744073709551616; rw [hv,hmod]; exact Nat.le_refl _
      · show (m.high + 1) % 18446744073709551616 ≤ B + 1; rw [hmod]; omega
      · intro q hq; cases hq; exact ⟨List.mem_cons_self,by show (m.prop1 E st).v.ID.P = _; rw [hv]⟩
      · intro q hq hd; cases hq; cases hd
      · cases hq; exact Classical.not_not.1 hw
      · intro q hq; cases hq; exact ⟨fun s hs => absurd hs List.not_mem_nil,Nat.zero_le _⟩
      · show ∀ v ∈ (m.prop1 E st).v::log,v.ID.P = (i:Int) → VLe v.ID (m.prop1 E st).v.ID; rw [hv] at hmine ⊢; exact hmine
      · intro j
        have:=hoth j
        exact ⟨this.1,this.2.1,by show (m.other j).2.N ≤ (m.high + 1) % 18446744073709551616; rw [hmod]; exact this.2.2⟩
      · refine ⟨fun s hs' => ?_,Nat.le_trans (joinTo_length _ _) ?_⟩
        · have h1:=joinS_sub hs'
          rw [hpr] at h1
          rw [List.mem_singleton.1 h1]; exact hs
        · rw [hpr]; show 1 ≤ B + 1; omega
      · show VLe m.cur.ID (m.prop1 E st).v.ID; rw [hv]; exact h.cp.trans hle
      · show VLe m.prom (m.prop1 E st).v.ID; rw [hv]; exact hle
      · cases hq; cases hd
      · intro q hq j hj; cases hq
        exact .inr (.inr ⟨wth_zero i (by omega) j (by rw [hpr] at hj; exact hj),VLe.refl _⟩)
      · cases hy
        refine ⟨rfl,?_,List.mem_cons_self,hset,rfl,fun k => absurd ?_ k⟩
        · show (m.prop1 E st).v.ID ≠ m.cur.ID; rw [hv]; exact fun e1 => hcne e1.symm
        · show (m.prop1 E st).v.ID.P = (i:Int); rw [hv]
  · rw [if_neg hc,tick_no hc]
    have h1:=h.mono hB1
    exact ⟨hl.mono hB1,StepOk.of h1 rfl (VLe.refl _) rfl (.inl rfl) (again_ok h1 (hl.mono hB1) hi hn) (again_len h1 (hl.mono hB1))⟩
end
end Go.FM

set_option linter.unusedVariables false
set_option linter.unusedSimpArgs false
namespace Go.FM
open Go
structure ViewsOk (log:List GView) (i:Nat) (cur:GView) (vs:List GView):Prop where
  mem:∀ v ∈ vs,v ∈ log∧has v.Set (i:Int) = true
  le:∀ v ∈ vs,VLe v.ID cur.ID
  last:vs.getLast?.getD ⟨z0,0⟩ = cur
  up:vs.Pairwise (fun a b => VLe a.ID b.ID∧a.ID ≠ b.ID)
structure Inv (B:Nat) (lo:List GView) (g:GG):Prop where
  n1:1 ≤ g.n
  n16:g.n ≤ 16
  len:g.ms.length = g.n
  vlen:g.views.length = g.n
  log:LogOk g.n B lo
  node:∀ i,i < g.n → NodeOk lo g.n i B (g.m i)
  bag:∀ o ∈ g.bag,(0 ≤ o.To∧o.To < (g.n:Int))∧FrOk lo g.n B o.F∧(o.F.Kind = 3 → VLe o.F.ID (g.m o.F.From.toNat).prom)∧(o.F.Kind = 1 → VLe o.F.Cur (g.m o.F.From.toNat).cur.ID∧VLe o.F.Prom (g.m o.F.From.toNat).prom)
  who:∀ i j:Nat,i < g.n → j < g.n → ∀ p,(g.m i).prop = some p → has p.who (j:Int) = true → VLe p.v.ID (g.m j).prom
  oth:∀ i j:Nat,i < g.n → j < g.n → VLe ((g.m i).other j).1 (g.m j).cur.ID∧VLe ((g.m i).other j).2 (g.m j).prom
  views:∀ i,i < g.n → ViewsOk lo i (g.m i).cur (g.views.getD i [])
  und:∀ i j:Nat,i < g.n → j < g.n → ∀ p,(g.m i).prop = some p → p.done = false → (g.m j).cur.ID ≠ p.v.ID
  kind:∀ o ∈ g.bag,o.F.Kind ≠ 0
  undc:∀ i:Nat,i < g.n → ∀ p,(g.m i).prop = some p → p.done = false → ∀ o ∈ g.bag,o.F.Kind = 5 → o.F.ID ≠ p.v.ID
  vl:∀ i,(g.views.getD i []).length ≤ B
section
variable {B n i j:Nat} {log log':List GView} {g g':GG} {m m':MB} {f:GFrame} {outs:List GOut} {x:Option GInstall} {o:GOut}
theorem ViewsOk.mono {cur:GView} {vs:List GView} (h:ViewsOk log i cur vs) (hl:∀ v ∈ log,v ∈ log'):ViewsOk log' i cur vs :=
  ⟨fun v hv => ⟨hl v (h.mem v hv).1,(h.mem v hv).2⟩,h.le,h.last,h.up⟩
theorem ViewsOk.snoc {cur v:GView} {vs:List GView} (h:ViewsOk log i cur vs) (h1:v ∈ log) (h2:has v.Set (i:Int) = true) (h3:VLe cur.ID v.ID) (h4:v.ID ≠ cur.ID):ViewsOk log i v (vs ++ [v]):=by
  refine ⟨fun u hu => ?_,fun u hu => ?_,by simp,?_⟩
  · rcases List.mem_append.1 hu with h5 | h5
    · exact h.mem u h5
    · rw [List.mem_singleton.1 h5]; exact ⟨h1,h2⟩
  · rcases List.mem_append.1 hu with h5 | h5
    · exact (h.le u h5).trans h3
    · rw [List.mem_singleton.1 h5]; exact VLe.refl _
  · refine List.pairwise_append.2 ⟨h.up,List.pairwise_singleton _ _,fun a ha b hb => ?_⟩
    rw [List.mem_singleton.1 hb]
    exact ⟨(h.le a ha).trans h3,fun e => h4 ((h3.antisymm (by rw [← e]; exact h.le a ha)).symm)⟩
theorem getD_set_list {α:Type} {l:List (List α)} {a:List α} (hi:i < l.length) (j:Nat):(l.set i a).getD j [] = if j = i then a else l.getD j []:=by
  rw [List.getD_eq_getElem?_getD,List.getElem?_set,List.getD_eq_getElem?_getD]
  by_cases e:i = j
  · subst e; rw [if_pos rfl,if_pos hi,if_pos rfl]; rfl
  · rw [if_neg e,if_neg (fun h => e h.symm)]
theorem Inv.step (h:Inv B log g) (hi:i < g.n) (hl:LogOk g.n (B + 1) log') (hsub:log' = log ∨ ∃ v:GView,v.ID.P = (i:Int)∧log' = v::log) (hs:StepOk log' g.n i (B + 1) (g.m i) m' f outs x)
    (hf1:f.Kind = 1 → VLe f.Cur (g.m f.From.toNat).cur.ID∧VLe f.Prom (g.m f.From.toNat).prom) (hf3:f.Kind = 3 → VLe f.ID (g.m f.From.toNat).prom)
    (hf5:f.Kind = 5 → ∀ a,a < g.n → ∀ p,(g.m a).prop = some p → p.done = false → f.ID ≠ p.v.ID) (hf0:f.Kind = 0 → ∀ v ∈ log,v.ID.N = (g.m i).high + 1 → v.ID.P ≠ (i:Int)):Inv (B + 1) log' ((g.put i m').post i outs x):=by
  have hB:=Nat.le_succ B
  have hm:∀ j,((g.put i m').post i outs x).m j = if j = i then m' else g.m j:=fun j => put_m (by rw [h.len]; exact hi) j
  have hsu:∀ v ∈ log,v ∈ log':=fun v hv => by
    rcases hsub with rfl | ⟨u,_,rfl⟩
    · exact hv
    · exact List.mem_cons_of_mem _ hv
  have hup:∀ j,VLe (g.m j).cur.ID (((g.put i m').post i outs x).m j).cur.ID∧VLe (g.m j).prom (((g.put i m').post i outs x).m j).prom:=fun j => by
    rw [hm]
    split
    · rename_i e; rw [e]; exact ⟨hs.cur,hs.prom⟩
    · exact ⟨VLe.refl _,VLe.refl _⟩
  have hvl:(vpost g.views i x).length = g.n:=by
    cases x with
    | none => exact h.vlen
    | some y => show (g.views.set i _).length = _; rw [List.length_set]; exact h.vlen
  refine ⟨h.n1,h.n16,by show (g.ms.set i m').length = _; rw [List.length_set]; exact h.len,hvl,hl,fun j hj => ?_,fun o ho => ?_,fun a b ha hb p hp hw => ?_,fun a b ha hb => ?_,fun j hj => ?_,fun a b ha hb p hp hd => ?_,fun o ho => ?_,fun a ha p hp hd o ho hk => ?_,fun a => ?_⟩
  · rw [hm]
    split
    · rename_i e; rw [e]; exact hs.node
    · rename_i e
      have h1:=(h.node j hj).mono hB
      rcases hsub with rfl | ⟨u,hu,rfl⟩
      · exact h1
      · exact h1.more (by rw [hu]; intro e2; exact e (by omega))
  · rcases List.mem_append.1 ho with h1 | h1
    · obtain ⟨h2,h3,h4,h5⟩:=h.bag o h1
      exact ⟨h2,h3.mono hsu hB,fun k => (h4 k).trans (hup _).2,fun k => ⟨(h5 k).1.trans (hup _).1,(h5 k).2.trans (hup _).2⟩⟩
    · obtain ⟨h2,h3,h4,h5',h6,_,_⟩:=hs.outs o h1
      refine ⟨h2,h3,fun k => ?_,fun k => absurd k h5'⟩
      rw [hm,h4,Int.toNat_natCast,if_pos rfl]; exact h6 k
  · rw [hm] at hp
    split at hp
    · rename_i e
      rcases hs.who p hp b hw with ⟨p0,h1,h2,h3⟩ | ⟨h1,h2,h3⟩ | ⟨h1,h2⟩
      · refine VLe.trans ?_ (hup b).2
        rw [← h2]; exact h.who i b hi hb p0 h1 h3
      · refine VLe.trans ?_ (hup b).2
        have:=hf3 h1
        rw [← h3]; rw [h2,Int.toNat_natCast] at this; exact this
      · rw [hm,if_pos h1]; exact h2
    · exact (h.who a b ha hb p hp hw).trans (hup b).2
  · have h0:=hup b
    have key:VLe ((((g.put i m').post i outs x).m a).other b).1 (g.m b).cur.ID∧VLe ((((g.put i m').post i outs x).m a).other b).2 (g.m b).prom:=by
      rw [hm]
      split
      · rename_i e
        rcases hs.oth b with h1 | ⟨h1,h2,h3⟩
        · rw [h1]; exact h.oth i b hi hb
        · rw [h3]
          have:=hf1 h1
          rw [h2,Int.toNat_natCast] at this; exact this
      · exact h.oth a b ha hb
    exact ⟨key.1.trans h0.1,key.2.trans h0.2⟩
  · show ViewsOk log' j (((g.put i m').post i outs x).m j).cur ((vpost g.views i x).getD j [])
    rw [hm]
    cases x with
    | none =>
      show ViewsOk log' j _ (g.views.getD j [])
      split
      · rename_i e; rw [hs.noin rfl,e]; exact (h.views i hi).mono hsu
      · exact (h.views j hj).mono hsu
    | some y =>
      obtain ⟨h1,h2,h3,h4,_⟩:=hs.inst y rfl
      show ViewsOk log' j _ ((g.views.set i (g.views.getD i [] ++ [y.View])).getD j [])
      rw [getD_set_list (by rw [h.vlen]; exact hi)]
      split
      · rename_i e
        rw [e,h1]
        exact ((h.views i hi).mono hsu).snoc h3 h4 hs.cur h2
      · exact (h.views j hj).mono hsu
  · 
    have hfresh:∀ u:GView,u ∈ log → ∀ q,m'.prop = some q → f.Kind = 0 → q.v.ID.N = (g.m i).high + 1 → u.ID ≠ q.v.ID:=fun u hu q hq hk0 hN e => by
      exact hf0 hk0 u hu (by rw [e]; exact hN) (by rw [e]; exact (hs.node.pin q hq).2)
    rw [hm] at hp ⊢
    by_cases ea:a = i
    · rw [if_pos ea] at hp
      have hPi:=(hs.node.pin p hp).2
      by_cases eb:b = i
      · rw [if_pos eb]; exact (hs.node.pno p hp hd).1
      · rw [if_neg eb]
        rcases hs.und p hp hd with ⟨p0,h1,h2,h3⟩ | ⟨h1,h2⟩
        · rw [← h2]; exact h.und i b hi hb p0 h1 h3
        · rcases (h.node b hb).cur with e | e
          · rw [e]; intro e2; rw [← e2] at h2; exact absurd h2 (by show ¬ 0 = _ + 1; omega)
          · exact hfresh _ e.1 p hp h1 h2
    · rw [if_neg ea] at hp
      by_cases eb:b = i
      · rw [if_pos eb]
        cases x with
        | none => rw [hs.noin rfl]; exact h.und a i ha hi p hp hd
        | some y =>
          obtain ⟨_,_,_,_,_,h6⟩:=hs.inst y rfl
          by_cases e:m'.cur.ID.P = (i:Int)
          · intro e2
            rw [e2,((h.node a ha).pin p hp).2] at e
            exact ea (by omega)
          · obtain ⟨_,h7,h8⟩:=h6 e
            rw [← h8]; exact hf5 h7 a ha p hp hd
      · rw [if_neg eb]; exact h.und a b ha hb p hp hd
  · rcases List.mem_append.1 ho with h1 | h1
    · exact h.kind o h1
    · exact (hs.outs o h1).2.2.2.2.2.2
  · rw [hm] at hp
    rcases List.mem_append.1 ho with h1 | h1
    · by_cases ea:a = i
      · rw [if_pos ea] at hp
        rcases hs.und p hp hd with ⟨p0,h2,h3,h4⟩ | ⟨h2,h3⟩
        · rw [← h3]; exact h.undc i hi p0 h2 h4 o h1 hk
        · intro e
          have h5:=((h.bag o h1).2.1.com hk).1
          exact hf0 h2 ⟨o.F.ID,o.F.Set⟩ h5 (by show o.F.ID.N = _; rw [e]; exact h3) (by show o.F.ID.P = _; rw [e]; exact (hs.node.pin p hp).2)
      · rw [if_neg ea] at hp
        exact h.undc a ha p hp hd o h1 hk
    · obtain ⟨_,_,_,_,_,h7,_⟩:=hs.outs o h1
      obtain ⟨q,h8,h9,h10⟩:=h7 hk
      by_cases ea:a = i
      · rw [if_pos ea,h8] at hp
        cases hp
        rw [h9] at hd; cases hd
      · rw [if_neg ea] at hp
        rw [h10]
        intro e
        have e1:=(hs.node.pin q h8).2
        rw [e,((h.node a ha).pin p hp).2] at e1
        exact ea (by omega)
  · show ((vpost g.views i x).getD a []).length ≤ B + 1
    have h1:=h.vl a
    have h2:=h.vl i
    cases x with
    | none => exact Nat.le_succ_of_le h1
    | some y =>
      show ((g.views.set i _).getD a []).length ≤ B + 1
      rw [getD_set_list (by rw [h.vlen]; exact hi)]
      split
      · rw [List.length_append,List.length_singleton]; omega
      · omega
theorem tlog_sub {e:Nat} {st:GState} (h:NodeOk log n i B m) (hB:B < 4611686018427387904):m.tlog e st log = log ∨ ∃ v:GView,v.ID.P = (i:Int)∧m.tlog e st log = v::log:=by
  unfold MB.tlog
  split
  · exact .inr ⟨_,by show ((m.self:Nat):Int) = i; rw [h.self],rfl⟩
  · exact .inl rfl
theorem Inv.tick (h:Inv B log g) (hi:i < g.n) (hB:B < 4611686018427387904) (e:Nat):Inv (B + 1) ((g.m i).tlog e (stOf (g.m i)) log) (g.tickAt i e):=by
  have h1:=tick_step (h.node i hi) h.log hi h.n16 hB e (st:=stOf (g.m i)) rfl
  exact h.step (f:=fr0) hi h1.1 (tlog_sub (h.node i hi) hB) h1.2 (fun k => absurd k (by show (0:Nat) ≠ 1; decide)) (fun k => absurd k (by show (0:Nat) ≠ 3; decide)) (fun k => absurd k (by show (0:Nat) ≠ 5; decide))
    (fun _ v hv hN hP => by have h2:=((h.node i hi).mine v hv hP).N; have h3:=(h.node i hi).high; omega)
theorem Inv.inn (h:Inv B log g) (hB:1 ≤ B) (ho:(0 ≤ o.To∧o.To < (g.n:Int))∧FrOk log g.n B o.F∧(o.F.Kind = 3 → VLe o.F.ID (g.m o.F.From.toNat).prom)∧(o.F.Kind = 1 → VLe o.F.Cur (g.m o.F.From.toNat).cur.ID∧VLe o.F.Prom (g.m o.F.From.toNat).prom)) (h5:o.F.Kind = 5 → ∀ a,a < g.n → ∀ p,(g.m a).prop = some p → p.done = false → o.F.ID ≠ p.v.ID) (h0:o.F.Kind ≠ 0):Inv (B + 1) log (g.inAt o):=by
  obtain ⟨h1,h2,h3,h4⟩:=ho
  have hi:o.To.toNat < g.n:=by omega
  exact h.step hi (h.log.mono (Nat.le_succ B)) (.inl rfl) (inn_step (h.node _ hi) h.log hi h.n16 h2 hB rfl) h4 h3 h5 (fun k => absurd k h0)
theorem Inv.mono {B':Nat} (h:Inv B log g) (hb:B ≤ B'):Inv B' log g :=
  ⟨h.n1,h.n16,h.len,h.vlen,h.log.mono hb,fun i hi => (h.node i hi).mono hb,fun o ho => ⟨(h.bag o ho).1,(h.bag o ho).2.1.mono (fun _ hv => hv) hb,(h.bag o ho).2.2⟩,h.who,h.oth,h.views,h.und,h.kind,h.undc,fun i => Nat.le_trans (h.vl i) hb⟩
theorem Inv.bagSub (h:Inv B log g) {bag:List GOut} (hb:∀ o ∈ bag,o ∈ g.bag):Inv B log ⟨g.n,g.ms,bag,g.views⟩ :=
  ⟨h.n1,h.n16,h.len,h.vlen,h.log,h.node,fun o ho => h.bag o (hb o ho),h.who,h.oth,h.views,h.und,fun o ho => h.kind o (hb o ho),fun i hi p hp hd o ho => h.undc i hi p hp hd o (hb o ho),h.vl⟩
theorem Inv.without (h:Inv B log g) (k:Nat):Inv B log (g.without k):=h.bagSub fun o ho => List.mem_of_mem_eraseIdx ho
theorem beatsTo_mem {k:Nat} (ho:o ∈ g.beatsTo i k):∃ j:Nat,j < k∧j ≠ i∧o = ⟨(j:Int),frBeat i (g.m i)⟩:=by
  obtain ⟨j,hj,rfl⟩:=List.mem_map.1 ho
  obtain ⟨h1,h2⟩:=List.mem_filter.1 hj
  exact ⟨j,List.mem_range.1 h1,of_decide_eq_true h2,rfl⟩
theorem NodeOk.curIn (h:NodeOk log n i B m):InLog log m.cur.ID:=by
  rcases h.cur with e | e
  · exact .inl (by rw [e])
  · exact .inr ⟨_,e.1,rfl⟩
theorem Inv.beat (h:Inv B log g) (hi:i < g.n):Inv B log (g.beatAt i):=by
  refine ⟨h.n1,h.n16,h.len,h.vlen,h.log,h.node,fun o ho => ?_,h.who,h.oth,h.views,h.und,fun o ho => ?_,fun a ha p hp hd o ho hk => ?_,h.vl⟩
  rotate_left
  · rcases List.mem_append.1 ho with h1 | h1
    · exact h.kind o h1
    · obtain ⟨j,_,_,rfl⟩:=beatsTo_mem h1
      show (1:Nat) ≠ 0; decide
  · rcases List.mem_append.1 ho with h1 | h1
    · exact h.undc a ha p hp hd o h1 hk
    · obtain ⟨j,_,_,rfl⟩:=beatsTo_mem h1
      exact absurd hk (by show (1:Nat) ≠ 5; decide)
  rcases List.mem_append.1 ho with h1 | h1
  · exact h.bag o h1
  · obtain ⟨j,hj,hji,rfl⟩:=beatsTo_mem h1
    have hn:=h.node i hi
    refine ⟨by show (0:Int) ≤ (j:Int)∧(j:Int) < g.n; omega,⟨by show (0:Int) ≤ (i:Int)∧(i:Int) < g.n; omega,.inl rfl,hn.curIn,hn.prom,fun k => absurd k (by show (1:Nat) ≠ 2; decide),fun k => absurd k (by show (1:Nat) ≠ 5; decide),fun k => absurd k (by show (1:Nat) ≠ 3; decide),⟨fun s hs => absurd hs List.not_mem_nil,Nat.zero_le _⟩,by show (0:Nat) < 65536; decide⟩,fun k => absurd k (by show (1:Nat) ≠ 3; decide),fun _ => ?_⟩
    show VLe (g.m i).cur.ID (g.m ((i:Nat):Int).toNat).cur.ID∧VLe (g.m i).prom (g.m ((i:Nat):Int).toNat).prom
    rw [Int.toNat_natCast]; exact ⟨VLe.refl _,VLe.refl _⟩
theorem Inv.comes (h:Inv B log g) (hB:1 ≤ B) (k:Nat) (keep hand:Bool):Inv (B + 1) log (g.comes k keep hand):=by
  unfold GG.comes
  split
  · exact h.mono (Nat.le_succ B)
  · rename_i hne
    have hlt:k % g.bag.length < g.bag.length:=Nat.mod_lt _ (List.length_pos_iff.2 hne)
    have hmem:g.bag.getD (k % g.bag.length) o00 ∈ g.bag:=by
      rw [List.getD_eq_getElem?_getD,List.getElem?_eq_getElem hlt]; exact List.getElem_mem hlt
    have ho:=h.bag _ hmem
    have hk0:=h.kind _ hmem
    have h5:(g.bag.getD (k % g.bag.length) o00).F.Kind = 5 → ∀ a,a < g.n → ∀ p,(g.m a).prop = some p → p.done = false → (g.bag.getD (k % g.bag.length) o00).F.ID ≠ p.v.ID:=fun hk a ha p hp hd => h.undc a ha p hp hd _ hmem hk
    cases keep <;> cases hand
    · exact (h.without _).mono (Nat.le_succ B)
    · exact (h.without _).inn hB ho h5 hk0
    · exact h.mono (Nat.le_succ B)
    · exact h.inn hB ho h5 hk0
theorem move_inv (h:Inv B log g) (hB:1 ≤ B) (hB2:B < 4611686018427387904) (a:GMove):∃ log',Inv (B + 1) log' (g.move a):=by
  have hn:=h.n1
  have hi:a.I % g.n < g.n:=Nat.mod_lt _ (by omega)
  unfold GG.move
  split
  · exact ⟨_,h.tick hi hB2 _⟩
  split
  · exact ⟨_,h.comes hB _ _ _⟩
  · exact ⟨_,(h.beat hi).mono (Nat.le_succ B)⟩
theorem begin_inv (h1:1 ≤ n) (h2:n ≤ 16):Inv 1 [] (GG.begin_ n):=by
  have hm:∀ i,i < n → (GG.begin_ n).m i = MB.new n i:=fun i hi => begin_m hi
  refine ⟨h1,h2,by unfold GG.begin_; simp,by unfold GG.begin_; simp,⟨fun v hv => absurd hv List.not_mem_nil,fun v hv => absurd hv List.not_mem_nil,fun v hv => absurd hv List.not_mem_nil,fun v hv => absurd hv List.not_mem_nil⟩,fun i hi => ?_,fun o ho => absurd ho List.not_mem_nil,fun i j hi hj p hp _ => ?_,fun i j hi hj => ?_,fun i hi => ?_,fun i j hi hj p hp => ?_,fun o ho => absurd ho List.not_mem_nil,fun i hi p hp hd o ho => absurd ho List.not_mem_nil,fun i => ?_⟩
  · have hi:i < n:=hi
    rw [hm i hi]
    refine ⟨rfl,rfl,rfl,.inl rfl,VLe.refl _,.inl rfl,Nat.le_refl _,Nat.zero_le _,fun p hp => (by cases hp),fun p hp => (by cases hp),fun p hp => (by cases hp),fun p hp => (by cases hp),fun v hv => absurd hv List.not_mem_nil,fun _ _ e => absurd e (by show ¬ 0 < 0; decide),fun j => ?_,⟨fun s hs => absurd hs List.not_mem_nil,Nat.zero_le _⟩⟩
    have:(MB.new n i).other j = (z0,z0):=by
      unfold MB.other MB.new
      show (List.replicate 16 (z0,z0)).getD j (z0,z0) = _
      rw [List.getD_eq_getElem?_getD,List.getElem?_replicate]; split <;> rfl
    rw [this]
    exact ⟨.inl rfl,.inl rfl,Nat.le_refl _⟩
  · rw [hm i hi] at hp; cases hp
  · have hi:i < n:=hi
    have hj:j < n:=hj
    rw [hm i hi,hm j hj]
    have:(MB.new n i).other j = (z0,z0):=by
      unfold MB.other MB.new
      show (List.replicate 16 (z0,z0)).getD j (z0,z0) = _
      rw [List.getD_eq_getElem?_getD,List.getElem?_replicate]; split <;> rfl
    rw [this]; exact ⟨VLe.refl _,VLe.refl _⟩
  · have hi:i < n:=hi
    rw [hm i hi]
    have:(GG.begin_ n).views.getD i [] = []:=by
      show (List.replicate n []).getD i [] = _
      rw [List.getD_eq_getElem?_getD,List.getElem?_replicate]; split <;> rfl
    rw [this]
    exact ⟨fun v hv => absurd hv List.not_mem_nil,fun v hv => absurd hv List.not_mem_nil,rfl,List.Pairwise.nil⟩
  · rw [hm i hi] at hp; cases hp
  · show ((List.replicate n ([]:List GView)).getD i []).length ≤ 1
    rw [List.getD_eq_getElem?_getD,List.getElem?_replicate]; split <;> exact Nat.zero_le _
def AccAt (g g':GG) (k:Nat):Prop:=VLe (g.m k).prom (g'.m k).prom∧(g'.views.getD k [] = g.views.getD k [] ∨ ∃ v,g'.views.getD k [] = g.views.getD k [] ++ [v]∧v.ID = (g'.m k).prom∧(g'.m k).opn = true∧(v.ID.P ≠ (k:Int) → v.ID = (g.m k).prom))
theorem AccAt.same {k:Nat}:AccAt g g k:=⟨VLe.refl _,.inl rfl⟩
theorem acc_step (h:Inv B log g) (hi:i < g.n) (hl:LogOk g.n (B + 1) log') (hs:StepOk log' g.n i (B + 1) (g.m i) m' f outs x) (k:Nat) (hk:k < g.n):AccAt g ((g.put i m').post i outs x) k:=by
  have hm:∀ j,((g.put i m').post i outs x).m j = if j = i then m' else g.m j:=fun j => put_m (by rw [h.len]; exact hi) j
  unfold AccAt
  rw [hm]
  by_cases e:k = i
  · rw [if_pos e]
    subst e
    refine ⟨hs.prom,?_⟩
    cases x with
    | none => exact .inl rfl
    | some y =>
      obtain ⟨h1,h2,h3,h4,h5,h6⟩:=hs.inst y rfl
      refine .inr ⟨y.View,?_,by rw [h1]; exact h5,?_,by rw [h1]; exact fun k => (h6 k).1⟩
      · show (g.views.set k _).getD k [] = _
        rw [getD_set_list (by rw [h.vlen]; exact hk),if_pos rfl]; rfl
      · unfold MB.opn
        rw [decide_eq_true (hl.pos _ h3).1,decide_eq_true h5]; rfl
  · rw [if_neg e]
    refine ⟨VLe.refl _,.inl ?_⟩
    cases x with
    | none => rfl
    | some y =>
      show (g.views.set i _).getD k [] = _
      rw [getD_set_list (by rw [h.vlen]; exact hi),if_neg e]
theorem move_acc (h:Inv B log g) (hB:1 ≤ B) (hB2:B < 4611686018427387904) (a:GMove) (k:Nat) (hk:k < g.n):AccAt g (g.move a) k:=by
  have hn:=h.n1
  have hi:a.I % g.n < g.n:=Nat.mod_lt _ (by omega)
  have hinn:∀ {g:GG},Inv B log g → k < g.n → ∀ {o:GOut},(0 ≤ o.To∧o.To < (g.n:Int))∧FrOk log g.n B o.F → AccAt g (g.inAt o) k:=fun {g} h hk {o} ho => by
    have hi:o.To.toNat < g.n:=by omega
    exact acc_step h hi (h.log.mono (Nat.le_succ B)) (inn_step (h.node _ hi) h.log hi h.n16 ho.2 hB rfl) k hk
  unfold GG.move
  split
  · have h1:=tick_step (h.node _ hi) h.log hi h.n16 hB2 a.Est (st:=stOf (g.m (a.I % g.n))) rfl
    exact acc_step h hi h1.1 h1.2 k hk
  split
  · unfold GG.comes
    split
    · exact AccAt.same
    · rename_i hne
      have hlt:a.Est % g.bag.length < g.bag.length:=Nat.mod_lt _ (List.length_pos_iff.2 hne)
      have hmem:g.bag.getD (a.Est % g.bag.length) o00 ∈ g.bag:=by
        rw [List.getD_eq_getElem?_getD,List.getElem?_eq_getElem hlt]; exact List.getElem_mem hlt
      have ho:=h.bag _ hmem
      cases a.Keep <;> cases decide (a.Kind % 9 < 7)
      · exact AccAt.same
      · exact hinn (h.without _) hk ⟨ho.1,ho.2.1⟩
      · exact AccAt.same
      · exact hinn h hk ⟨ho.1,ho.2.1⟩
  · exact AccAt.same
end
end Go.FM

set_option linter.unusedVariables false
set_option linter.unusedSimpArgs false
namespace Go.FM
open Go
section
variable {B n i j:Nat} {log log':List GView} {g g':GG} {m m':MB} {f:GFrame} {o:GOut} {p:GProp} {T:GView} {st:GState} {x v:GViewID}
theorem all_has (hi:i < n) (hn:n ≤ 16):has (2 ^ n - 1) (i:Int) = true :=
  decide_eq_true ⟨by omega,by omega,by rw [Int.toNat_natCast,← testBit_iff,Nat.testBit_two_pow_sub_one]; exact decide_eq_true hi⟩
theorem all_least:∀ n,n < 17 → 1 ≤ n → least (2 ^ n - 1) = 0:=by decide
theorem est_all (h:NodeOk log n i B m) (hi:i < n) (hn:n ≤ 16):m.est (2 ^ n - 1) = 2 ^ n - 1:=by
  unfold MB.est; rw [h.n,h.self,Nat.and_self]; exact (wth_has (all_has hi hn)).symm
theorem in_le (hx:InLog log x) (top:∀ u ∈ log,VLe u.ID v) (h0:0 < v.N):VLe x v:=by
  rcases hx with rfl | ⟨u,h1,rfl⟩
  · exact .inl h0
  · exact top u h1
theorem ahead_f (h:m.ahead (2 ^ n - 1) v = false) (hn:n ≤ 16) (hj:j < n) (hs:j ≠ m.self):VLe (m.other j).2 v:=by
  unfold MB.ahead at h
  have h1:=List.any_eq_false.1 h j (has_lst.2 (all_has hj hn))
  rw [Bool.and_eq_true,not_and] at h1
  exact above_f.1 (by simpa using h1 (decide_eq_true hs))
theorem ahead_of (h:∀ j,j < n → j ≠ m.self → VLe (m.other j).2 v):m.ahead (2 ^ n - 1) v = false:=by
  unfold MB.ahead
  refine List.any_eq_false.2 fun j hj => ?_
  have h1:=has_lt (n:=n) (Nat.sub_lt (Nat.pos_of_ne_zero (by simp)) (by decide)) (has_lst.1 hj)
  rw [Bool.and_eq_true,not_and]
  intro h2
  have:=h j h1 (of_decide_eq_true h2)
  rw [above_f.2 this]; decide
def Sj (T:GView) (p:GProp) (g:GG) (j:Nat):Prop :=
  (g.m j).cur.ID = T.ID ∨ ((g.m j).prom = T.ID∧p.done = true∧∃ o ∈ g.bag,o.To = (j:Int)∧o.F.Kind = 5∧o.F.ID = T.ID) ∨
  (p.done = false∧((has p.who (j:Int) = true∧(g.m j).prom = T.ID) ∨ ((g.m j).prom = T.ID∧∃ o ∈ g.bag,o.To = 0∧o.F.Kind = 3∧o.F.ID = T.ID∧o.F.From = (j:Int)) ∨ ∃ o ∈ g.bag,o.To = (j:Int)∧o.F.Kind = 2∧o.F.ID = T.ID))
structure Tgt (log:List GView) (T:GView) (p:GProp) (g:GG):Prop where
  tin:T ∈ log
  set:T.Set = 2 ^ g.n - 1
  tp:T.ID.P = 0
  top:∀ v ∈ log,VLe v.ID T.ID
  prom0:(g.m 0).prom = T.ID
  prop:(g.m 0).prop = some p
  pv:p.v = T
  pd:p.done = true → (g.m 0).cur = T
  sj:∀ j,j ≠ 0 → j < g.n → Sj T p g j
theorem who_T (h:Inv B log g) (top:∀ u ∈ log,VLe u.ID T.ID) (hT:0 < T.ID.N) (h0:0 < g.n) (hp:(g.m 0).prop = some p) (hv:p.v = T) (hj:j < g.n) (hw:has p.who (j:Int) = true):(g.m j).prom = T.ID:=by
  have h1:=h.who 0 j h0 hj p hp hw
  rw [hv] at h1
  exact (in_le (h.node j hj).prom top hT).antisymm h1
theorem tick_m (h:Inv B log g) (hi:i < g.n) (e:Nat) (j:Nat):(g.tickAt i e).m j = if j = i then ((g.m i).tick e (stOf (g.m i))).1 else g.m j:=put_m (by rw [h.len]; exact hi) j
theorem again_p (hp:m.prop = some p) (he:m.prom = p.v.ID) (hj:has p.v.Set (j:Int) = true) (hs:j ≠ m.self) (hd:p.done = false) (hw:has p.who (j:Int) = false):(⟨(j:Int),frPropose m.self p.v⟩:GOut) ∈ m.again:=by
  refine again_in hp he hj hs ?_
  unfold MB.again1
  rw [if_neg hs,if_neg (fun k => by rw [hd] at k; exact absurd k.1 (by decide)),if_pos ⟨hd,hw⟩]
  exact List.mem_singleton.2 rfl
theorem again_c (hp:m.prop = some p) (he:m.prom = p.v.ID) (hj:has p.v.Set (j:Int) = true) (hs:j ≠ m.self) (hd:p.done = true) (hw:(m.other j).1 ≠ p.v.ID):m.commit p j ∈ m.again:=by
  refine again_in hp he hj hs ?_
  unfold MB.again1
  rw [if_neg hs,if_pos ⟨hd,hw⟩]
  exact List.mem_singleton.2 rfl
theorem tgt_tick0 (h:Inv B log g) (hB:B < 4611686018427387904) (hK:∀ v ∈ log,v.ID.P ≠ 0 → VLe v.ID ((g.m 0).other v.ID.P.toNat).2) :
    ∃ T p,Tgt ((g.m 0).tlog (2 ^ g.n - 1) (stOf (g.m 0)) log) T p (g.tickAt 0 (2 ^ g.n - 1)):=by
  have hn0:0 < g.n:=h.n1
  have hn16:=h.n16
  have hno:=h.node 0 hn0
  have hself:=hno.self
  have he:=est_all hno hn0 hn16
  have hle:=all_least g.n (by omega) h.n1
  have htk:=tick_m h hn0 (2 ^ g.n - 1)
  have hhi:=hno.highB
  by_cases hc:least ((g.m 0).est (2 ^ g.n - 1)) = ((g.m 0).self:Int)∧(g.m 0).need ((g.m 0).est (2 ^ g.n - 1)) = true∧(g.m 0).under ((g.m 0).est (2 ^ g.n - 1)) = false
  · have hlog:(g.m 0).tlog (2 ^ g.n - 1) (stOf (g.m 0)) log = ((g.m 0).prop1 (2 ^ g.n - 1) (stOf (g.m 0))).v::log:=by
      unfold MB.tlog; rw [if_pos hc,he]
    have hpr:(g.m 0).prop1 (2 ^ g.n - 1) (stOf (g.m 0)) = ⟨⟨⟨(g.m 0).high + 1,0⟩,2 ^ g.n - 1⟩,wth 0 0,[stOf (g.m 0)],false⟩:=by
      unfold MB.prop1; rw [Nat.mod_eq_of_lt (show (g.m 0).high + 1 < 18446744073709551616 by omega),hself]; rfl
    rw [hlog,hpr]
    have htop:∀ v ∈ (⟨⟨(g.m 0).high + 1,0⟩,2 ^ g.n - 1⟩:GView)::log,VLe v.ID ⟨(g.m 0).high + 1,0⟩:=fun v hv => by
      rcases List.mem_cons.1 hv with rfl | hv
      · exact VLe.refl _
      · refine .inl ?_
        show v.ID.N < (g.m 0).high + 1
        by_cases hP:v.ID.P = 0
        · have h1:=(hno.mine v hv hP).N
          have h2:=hno.high
          omega
        · have h1:=(hK v hv hP).N
          have h2:=(hno.oth v.ID.P.toNat).2.2
          omega
    have htick:(g.m 0).tick (2 ^ g.n - 1) (stOf (g.m 0)) = (match (g.m 0).ticks (2 ^ g.n - 1) (stOf (g.m 0)) with | (m',some i) => (m',[],some i) | (m',none) => (m',m'.again,none)):=by
      unfold MB.tick; rw [he] at hc ⊢; exact if_pos hc
    by_cases hw:wth 0 0 ≠ 2 ^ g.n - 1
    · have hts:(g.m 0).tick (2 ^ g.n - 1) (stOf (g.m 0)) = ({ g.m 0 with high:=(g.m 0).high + 1,prom:=⟨(g.m 0).high + 1,0⟩,prop:=some ⟨⟨⟨(g.m 0).high + 1,0⟩,2 ^ g.n - 1⟩,wth 0 0,[stOf (g.m 0)],false⟩ },MB.again { g.m 0 with high:=(g.m 0).high + 1,prom:=⟨(g.m 0).high + 1,0⟩,prop:=some ⟨⟨⟨(g.m 0).high + 1,0⟩,2 ^ g.n - 1⟩,wth 0 0,[stOf (g.m 0)],false⟩ },none):=by
        rw [htick]
        unfold MB.ticks MB.agree
        rw [hpr,if_pos hw,Nat.mod_eq_of_lt (show (g.m 0).high + 1 < 18446744073709551616 by omega)]
      have hm0:(g.tickAt 0 (2 ^ g.n - 1)).m 0 = { g.m 0 with high:=(g.m 0).high + 1,prom:=⟨(g.m 0).high + 1,0⟩,prop:=some ⟨⟨⟨(g.m 0).high + 1,0⟩,2 ^ g.n - 1⟩,wth 0 0,[stOf (g.m 0)],false⟩ }:=by
        rw [htk,if_pos rfl,hts]
      refine ⟨⟨⟨(g.m 0).high + 1,0⟩,2 ^ g.n - 1⟩,⟨⟨⟨(g.m 0).high + 1,0⟩,2 ^ g.n - 1⟩,wth 0 0,[stOf (g.m 0)],false⟩,List.mem_cons_self,rfl,rfl,htop,by rw [hm0],by rw [hm0],rfl,fun k => (by cases k),fun j hj hjn => .inr (.inr ⟨rfl,.inr (.inr ?_)⟩)⟩
      have hjn:j < g.n:=hjn
      have hnw:has (wth 0 0) (j:Int) = false:=by
        cases e:has (wth 0 0) (j:Int) with
        | false => rfl
        | true => exact absurd (wth_zero 0 (by decide) j e) hj
      refine ⟨_,List.mem_append_right _ (by rw [hts]; exact again_p (m:={ g.m 0 with high:=(g.m 0).high + 1,prom:=⟨(g.m 0).high + 1,0⟩,prop:=some ⟨⟨⟨(g.m 0).high + 1,0⟩,2 ^ g.n - 1⟩,wth 0 0,[stOf (g.m 0)],false⟩ }) (p:=⟨⟨⟨(g.m 0).high + 1,0⟩,2 ^ g.n - 1⟩,wth 0 0,[stOf (g.m 0)],false⟩) rfl rfl (all_has hjn hn16) (by show j ≠ (g.m 0).self; rw [hself]; exact hj) rfl hnw),rfl,rfl,rfl⟩
    · have hw':wth 0 0 = 2 ^ g.n - 1:=Classical.not_not.1 hw
      have hts:((g.m 0).tick (2 ^ g.n - 1) (stOf (g.m 0))).1 = { g.m 0 with high:=(g.m 0).high + 1,prom:=⟨(g.m 0).high + 1,0⟩,prop:=some ⟨⟨⟨(g.m 0).high + 1,0⟩,2 ^ g.n - 1⟩,wth 0 0,[],true⟩,joined:=joinS [stOf (g.m 0)],cur:=⟨⟨(g.m 0).high + 1,0⟩,2 ^ g.n - 1⟩ }:=by
        rw [htick]
        unfold MB.ticks MB.agree
        rw [hpr,if_neg hw,Nat.mod_eq_of_lt (show (g.m 0).high + 1 < 18446744073709551616 by omega)]
      have hm0:=htk 0
      rw [if_pos rfl,hts] at hm0
      refine ⟨⟨⟨(g.m 0).high + 1,0⟩,2 ^ g.n - 1⟩,⟨⟨⟨(g.m 0).high + 1,0⟩,2 ^ g.n - 1⟩,wth 0 0,[],true⟩,List.mem_cons_self,rfl,rfl,htop,by rw [hm0],by rw [hm0],rfl,fun k => by rw [hm0],fun j hj hjn => ?_⟩
      have hjn:j < g.n:=hjn
      have h1:=all_has hjn hn16
      rw [← hw'] at h1
      exact absurd (wth_zero 0 (by decide) j h1) hj
  · have hlog:(g.m 0).tlog (2 ^ g.n - 1) (stOf (g.m 0)) log = log:=by unfold MB.tlog; rw [if_neg hc]
    have hts:=tick_no (st:=stOf (g.m 0)) hc
    rw [hlog]
    have hmj:∀ j,(g.tickAt 0 (2 ^ g.n - 1)).m j = g.m j:=fun j => by
      rw [htk,hts]; split
      · rename_i e; rw [e]
      · rfl
    have hbag:(g.tickAt 0 (2 ^ g.n - 1)).bag = g.bag ++ (g.m 0).again:=by
      show g.bag ++ ((g.m 0).tick (2 ^ g.n - 1) (stOf (g.m 0))).2.1 = _; rw [hts]
    rw [he,hself] at hc
    have hcase:(g.m 0).need (2 ^ g.n - 1) = false ∨ (g.m 0).under (2 ^ g.n - 1) = true:=by
      cases h1:(g.m 0).need (2 ^ g.n - 1) with
      | false => exact .inl rfl
      | true =>
        cases h2:(g.m 0).under (2 ^ g.n - 1) with
        | true => exact .inr rfl
        | false => exact absurd ⟨hle,h1,h2⟩ hc
    have htop:∀ T:GView,(g.m 0).prom = T.ID → (g.m 0).ahead (2 ^ g.n - 1) T.ID = false → ∀ v ∈ log,VLe v.ID T.ID:=fun T h1 h2 v hv => by
      by_cases hP:v.ID.P = 0
      · rw [← h1]; exact hno.mine v hv hP
      · have h3:=h.log.p v hv
        exact (hK v hv hP).trans (ahead_f h2 hn16 (by omega) (by rw [hself]; omega))
    rcases Classical.em ((g.m 0).need (2 ^ g.n - 1) = false) with hnd | hnd
    · unfold MB.need at hnd
      simp only [Bool.or_eq_false_iff,decide_eq_false_iff_not,Classical.not_not] at hnd
      obtain ⟨⟨⟨h1,h2⟩,h3⟩,h4⟩:=hnd
      have hcin:(g.m 0).cur ∈ log:=by
        rcases hno.cur with e | e
        · rw [e] at h2; exact absurd rfl h2
        · exact e.1
      have hP:(g.m 0).cur.ID.P = 0:=by
        have:=(h.log.set _ hcin).2.2
        rw [← h3,hle] at this; exact this.symm
      obtain ⟨p,hp,hpv,hpd⟩:=hno.own h1 hP (by omega)
      have ht:=htop (g.m 0).cur h1.symm h4
      refine ⟨(g.m 0).cur,p,hcin,h3.symm,hP,ht,by rw [hmj]; exact h1.symm,by rw [hmj]; exact hp,hpv,fun _ => by rw [hmj],fun j hj hjn => ?_⟩
      have hjn:j < g.n:=hjn
      have hw:has p.who (j:Int) = true:=by rw [hno.pd p hp hpd,hpv,← h3]; exact all_has hjn hn16
      have hpj:=who_T h ht (by omega) hn0 hp hpv hjn hw
      unfold Sj
      rw [hmj,hbag]
      by_cases hcj:((g.m 0).other j).1 = p.v.ID
      · refine .inl ?_
        have h5:=(h.oth 0 j hn0 hjn).1
        rw [hcj,hpv] at h5
        have h6:=(h.node j hjn).cp
        rw [hpj] at h6
        exact h6.antisymm h5
      · refine .inr (.inl ⟨hpj,hpd,_,List.mem_append_right _ (again_c hp (by rw [hpv]; exact h1.symm) (by rw [hpv,← h3]; exact all_has hjn hn16) (by rw [hself]; exact hj) hpd hcj),rfl,rfl,by show p.v.ID = _; rw [hpv]⟩)
    · rcases hcase with h1 | hun
      · exact absurd h1 hnd
      unfold MB.under at hun
      cases hp:(g.m 0).prop with
      | none => rw [hp] at hun; cases hun
      | some p =>
        rw [hp] at hun
        simp only [Bool.and_eq_true,Bool.not_eq_true',decide_eq_true_iff] at hun
        obtain ⟨⟨⟨h1,h2⟩,h3⟩,h4⟩:=hun
        obtain ⟨hpin,hpP⟩:=hno.pin p hp
        have ht:=htop p.v h2 h4
        refine ⟨p.v,p,hpin,h3,hpP,ht,by rw [hmj]; exact h2,by rw [hmj]; exact hp,rfl,fun k => (by rw [h1] at k; cases k),fun j hj hjn => .inr (.inr ⟨h1,?_⟩)⟩
        have hjn:j < g.n:=hjn
        rw [hmj,hbag]
        cases hw:has p.who (j:Int) with
        | true => exact .inl ⟨rfl,who_T h ht (h.log.pos _ hpin).1 hn0 hp rfl hjn hw⟩
        | false => exact .inr (.inr ⟨_,List.mem_append_right _ (again_p hp h2 (by rw [h3]; exact all_has hjn hn16) (by rw [hself]; exact hj) h1 hw),rfl,rfl,rfl⟩)
theorem tick_other (h:Inv B log g) (hi:i < g.n) (h0:i ≠ 0):(g.m i).tick (2 ^ g.n - 1) (stOf (g.m i)) = (g.m i,(g.m i).again,none)∧(g.m i).tlog (2 ^ g.n - 1) (stOf (g.m i)) log = log:=by
  have hc:¬ (least ((g.m i).est (2 ^ g.n - 1)) = ((g.m i).self:Int)∧(g.m i).need ((g.m i).est (2 ^ g.n - 1)) = true∧(g.m i).under ((g.m i).est (2 ^ g.n - 1)) = false):=fun k => by
    have h1:=k.1
    rw [est_all (h.node i hi) hi h.n16,all_least g.n (by have:=h.n16; omega) h.n1,(h.node i hi).self] at h1
    omega
  exact ⟨tick_no hc,by unfold MB.tlog; rw [if_neg hc]⟩
theorem Sj.more {bag:List GOut} (h:Sj T p g j) (hm:g'.m j = g.m j) (hb:∀ o ∈ g.bag,o ∈ g'.bag):Sj T p g' j:=by
  unfold Sj at h ⊢
  rw [hm]
  rcases h with h | ⟨h1,h2,o,h3,h4⟩ | ⟨h1,h | ⟨h2,o,h3,h4⟩ | ⟨o,h3,h4⟩⟩
  · exact .inl h
  · exact .inr (.inl ⟨h1,h2,o,hb o h3,h4⟩)
  · exact .inr (.inr ⟨h1,.inl h⟩)
  · exact .inr (.inr ⟨h1,.inr (.inl ⟨h2,o,hb o h3,h4⟩)⟩)
  · exact .inr (.inr ⟨h1,.inr (.inr ⟨o,hb o h3,h4⟩)⟩)
theorem tgt_tick (h:Inv B log g) (ht:Tgt log T p g) (hi:i < g.n) (h0:i ≠ 0):Tgt log T p (g.tickAt i (2 ^ g.n - 1)):=by
  have hts:=(tick_other h hi h0).1
  have hmj:∀ j,(g.tickAt i (2 ^ g.n - 1)).m j = g.m j:=fun j => by
    rw [tick_m h hi,hts]; split
    · rename_i e; rw [e]
    · rfl
  have hb:∀ o ∈ g.bag,o ∈ (g.tickAt i (2 ^ g.n - 1)).bag:=fun o ho => List.mem_append_left _ ho
  exact ⟨ht.tin,ht.set,ht.tp,ht.top,by rw [hmj]; exact ht.prom0,by rw [hmj]; exact ht.prop,ht.pv,fun k => by rw [hmj]; exact ht.pd k,fun j hj hjn => (ht.sj j hj hjn).more (bag:=[]) (hmj j) hb⟩
end
end Go.FM
