/- Steps of the proofs over the functions of this seat, printed by a program (gen.py) and checked by Lean. -/
import Derived.Test.YtcccaihjgoaehaaDoorW02
import Derived.Test.YtcccaihjgoaehaaDoorW00
import Derived.Lib.AppendZerosOnto
import Derived.Lib.Overlaps
import Derived.Test.YtcccaihjgoaehaaDoorW01
import Derived.Calls
set_option linter.unusedVariables false
set_option linter.unusedSimpArgs false
namespace Go.FM
open Go
section
variable {B n i j:Nat} {log log':List GView} {g g':GG} {m m':MB} {f:GFrame} {o:GOut} {p:GProp} {T:GView} {st:GState} {x v:GViewID} {rest:List GOut}
def GG.pop (g:GG) (rest:List GOut):GG:=⟨g.n,g.ms,rest,g.views⟩
theorem comes_cons (h:g.bag = o::rest):g.comes 0 false true = (g.pop rest).inAt o:=by
  unfold GG.comes
  rw [h]
  rw [if_neg (by simp)]
  simp only [Nat.zero_mod]
  unfold GG.without GG.pop
  rw [h]
  rfl
theorem in_m (h:Inv B log g) (hi:o.To.toNat < g.n) (j:Nat):((g.pop rest).inAt o).m j = if j = o.To.toNat then ((g.m o.To.toNat).inn o.F (stOf (g.m o.To.toNat))).1 else g.m j :=
  put_m (g:=g.pop rest) (by show _ < g.ms.length; rw [h.len]; exact hi) j
theorem inn0 (h:NodeOk log n 0 B m) (hl:LogOk n B log) (hf:FrOk log n B f) (hp:m.prop = some p) (hv:p.v = T) (hprom:m.prom = T.ID) (top:∀ u ∈ log,VLe u.ID T.ID) (tp:T.ID.P = 0) (hT:0 < T.ID.N) :
    ((m.inn f st).1.prop = some p∧(m.inn f st).1.prom = m.prom∧(m.inn f st).1.cur = m.cur∧(p.done = false → f.Kind = 3 → f.ID = T.ID → f.From ≠ 0 → has T.Set f.From = true → has p.who f.From = true)) ∨
    (p.done = false∧f.Kind = 3∧f.ID = T.ID∧f.From ≠ 0∧∃ p',(m.inn f st).1.prop = some p'∧p'.v = T∧p'.who = wth p.who f.From∧(m.inn f st).1.prom = m.prom ∧
      ((p'.done = false∧(m.inn f st).1.cur = m.cur) ∨ (p'.done = true∧(m.inn f st).1.cur = T∧p'.who = T.Set∧∀ j ∈ lst (wto T.Set 0),∃ o ∈ (m.inn f st).2.1,o.To = (j:Int)∧o.F.Kind = 5∧o.F.ID = T.ID))):=by
  have hF:=hf.frm
  have hself:=h.self
  have hn:=h.n
  unfold MB.inn
  by_cases h0:f.From < 0 ∨ (m.n:Int) ≤ f.From ∨ f.From = (m.self:Int)
  · rw [if_pos h0]
    refine .inl ⟨hp,rfl,rfl,fun _ _ _ h4 _ => ?_⟩
    rw [hself] at h0; omega
  rw [if_neg h0]
  by_cases h1:f.Kind = 1
  · rw [if_pos h1]; exact .inl ⟨hp,rfl,rfl,fun _ k => absurd (h1.symm.trans k) (by decide)⟩
  rw [if_neg h1]
  by_cases h2:f.Kind = 2
  · rw [if_pos h2]
    have hab:aboveV f.ID m.prom = false:=above_f.2 (by rw [hprom]; exact in_le hf.id top hT)
    have hk:∀ k:f.Kind = 3,False:=fun k => absurd (h2.symm.trans k) (by decide)
    unfold MB.propose
    split
    · exact .inl ⟨hp,rfl,rfl,fun _ k => (hk k).elim⟩
    rw [if_neg (by rw [hab]; decide)]
    split
    · exact .inl ⟨hp,rfl,rfl,fun _ k => (hk k).elim⟩
    · exact .inl ⟨hp,rfl,rfl,fun _ k => (hk k).elim⟩
  rw [if_neg h2]
  by_cases h3:f.Kind = 3
  · rw [if_pos h3]
    unfold MB.accept
    rw [hp]
    simp only []
    by_cases hok:m.acceptOk p f = true
    · rw [if_pos hok]
      obtain ⟨⟨⟨⟨⟨hd,hid⟩,hpr⟩,hset⟩,hnw⟩,hlen⟩:((((p.done = false∧p.v.ID = f.ID)∧m.prom = f.ID)∧has p.v.Set f.From = true)∧has p.who f.From = false)∧f.States.length = 1:=by
        unfold MB.acceptOk at hok
        simpa [Bool.and_eq_true,and_assoc] using hok
      have hfr:f.From ≠ 0:=fun k => h0 (.inr (.inr (by rw [hself,k]; rfl)))
      refine .inr ⟨hd,h3,by rw [← hid,hv],hfr,?_⟩
      unfold MB.agree
      by_cases hw:wth p.who f.From ≠ p.v.Set
      · rw [if_pos hw]; exact ⟨_,rfl,hv,rfl,rfl,.inl ⟨hd,rfl⟩⟩
      · rw [if_neg hw]
        refine ⟨_,rfl,hv,rfl,rfl,.inr ⟨rfl,hv,(Classical.not_not.1 hw).trans (by rw [hv]),fun j hj => ?_⟩⟩
        refine ⟨_,List.mem_map.2 ⟨j,?_,rfl⟩,rfl,rfl,by show p.v.ID = _; rw [hv]⟩
        rw [hself,hv]; exact hj
    · rw [if_neg hok]
      refine .inl ⟨hp,rfl,rfl,fun hd _ hid hfr hset => ?_⟩
      cases hw:has p.who f.From with
      | true => rfl
      | false =>
        refine absurd ?_ hok
        obtain ⟨s,hs⟩:=hf.acc h3
        unfold MB.acceptOk
        rw [hd,hw,hv,hset,decide_eq_true hid.symm,decide_eq_true (hprom.trans hid.symm),hs]; rfl
  rw [if_neg h3]
  have hk3:∀ k:f.Kind = 3,False:=h3
  by_cases h4:f.Kind = 4
  · rw [if_pos h4,hp]
    simp only []
    rw [if_neg]
    · exact .inl ⟨hp,rfl,rfl,fun _ k => (hk3 k).elim⟩
    · rintro ⟨e1,_,e2⟩
      have:=above_iff.1 e2
      rw [← e1,hv] at this
      exact this (in_le hf.prom top hT)
  rw [if_neg h4]
  by_cases h5:f.Kind = 5
  · rw [if_pos h5]
    split
    · exact .inl ⟨hp,rfl,rfl,fun _ k => (hk3 k).elim⟩
    · rename_i hc
      exfalso
      have e1:f.ID = m.prom:=Classical.not_not.1 fun k => hc (.inl k)
      have e2:f.ID.P = f.From:=Classical.not_not.1 fun k => hc (.inr (.inr (.inr k)))
      rw [e1,hprom,tp] at e2
      exact h0 (.inr (.inr (by rw [hself,← e2]; rfl)))
  rw [if_neg h5]; exact .inl ⟨hp,rfl,rfl,fun _ k => (hk3 k).elim⟩
theorem has_all (hT:T.Set = 2 ^ n - 1) (hj:j < n) (hn:n ≤ 16):has T.Set (j:Int) = true:=by rw [hT]; exact all_has hj hn
theorem commit_now (h:NodeOk log n i B m) (hl:LogOk n B log) (hi:i < n) (hn:n ≤ 16) (h0:i ≠ 0) (hf:FrOk log n B f) (hk:f.Kind = 5) (hid:f.ID = T.ID) (tin:T ∈ log) (hset:T.Set = 2 ^ n - 1) (tp:T.ID.P = 0) (hpr:m.prom = T.ID):(m.inn f st).1.cur.ID = T.ID:=by
  have hF:=hf.frm
  obtain ⟨h1,h2⟩:=hf.com hk
  have hT:(⟨f.ID,f.Set⟩:GView) = T:=hl.uniq _ h1 _ tin hid
  have hfs:f.Set = T.Set:=by rw [← hT]
  rw [hid,tp] at h2
  unfold MB.inn
  rw [if_neg (by rw [h.n,h.self,h2]; omega),if_neg (by rw [hk]; decide),if_neg (by rw [hk]; decide),if_neg (by rw [hk]; decide),if_neg (by rw [hk]; decide),if_pos hk]
  by_cases hc:m.cur.ID = f.ID
  · rw [if_pos (.inr (.inl hc))]; exact hc.trans hid
  · rw [if_neg]
    · exact hid
    · rw [hid,hpr,hfs,h.self,has_all hset hi hn,tp,h2]
      rintro (k | k | k | k)
      · exact k rfl
      · exact hc (by rw [k,hid])
      · cases k
      · exact k rfl
theorem propose_now (h:NodeOk log n i B m) (hl:LogOk n B log) (hi:i < n) (hn:n ≤ 16) (h0:i ≠ 0) (hf:FrOk log n B f) (hk:f.Kind = 2) (hid:f.ID = T.ID) (tin:T ∈ log) (hset:T.Set = 2 ^ n - 1) (tp:T.ID.P = 0) (hle:VLe m.prom T.ID) :
    (m.inn f st).1.prom = T.ID∧((m.inn f st).1.cur.ID = T.ID ∨ ∃ o ∈ (m.inn f st).2.1,o.To = 0∧o.F.Kind = 3∧o.F.ID = T.ID∧o.F.From = (i:Int)):=by
  have hF:=hf.frm
  obtain ⟨h1,h2⟩:=hf.prop hk
  have hT:(⟨f.ID,f.Set⟩:GView) = T:=hl.uniq _ h1 _ tin hid
  have hfs:f.Set = T.Set:=by rw [← hT]
  have h2':=h2
  rw [hid,tp] at h2'
  have hlt:(2:Nat) ^ n - 1 < 2 ^ n:=Nat.sub_lt (Nat.pos_of_ne_zero (by simp)) (by decide)
  unfold MB.inn
  rw [if_neg (by rw [h.n,h.self,h2']; omega),if_neg (by rw [hk]; decide),if_pos hk]
  unfold MB.propose
  rw [if_neg (by
    rw [hid,tp,h2',hfs,h.self,has_all hset hi hn,h.n,show has T.Set 0 = true from has_all (j:=0) hset (by omega) hn,hset,Nat.div_eq_of_lt hlt]
    rintro (k | k | k | k)
    · exact k rfl
    · cases k
    · cases k
    · exact k rfl)]
  by_cases hab:aboveV f.ID m.prom = true
  · rw [if_pos hab]
    exact ⟨hid,.inr ⟨_,List.mem_singleton.2 rfl,h2',rfl,hid,by show (m.self:Int) = i; rw [h.self]⟩⟩
  · rw [if_neg hab]
    have hpr:m.prom = T.ID:=by
      have:=above_f.1 (Bool.eq_false_iff.2 hab)
      rw [hid] at this
      exact hle.antisymm this
    by_cases hc:m.cur.ID = f.ID
    · rw [if_pos (.inr hc)]
      exact ⟨hpr,.inl (hc.trans hid)⟩
    · rw [if_neg (by rintro (k | k); exact k (hid.trans hpr.symm); exact hc k)]
      exact ⟨hpr,.inr ⟨_,List.mem_singleton.2 rfl,h2',rfl,hid,by show (m.self:Int) = i; rw [h.self]⟩⟩
theorem tgt_comes (h:Inv B log g) (hB:1 ≤ B) (ht:Tgt log T p g) (hb:g.bag = o::rest):∃ p',Tgt log T p' ((g.pop rest).inAt o):=by
  have hn0:0 < g.n:=h.n1
  have hn16:=h.n16
  have ho:=h.bag o (by rw [hb]; exact List.mem_cons_self)
  have hto:=ho.1
  have hi:o.To.toNat < g.n:=by omega
  have hm:=fun j => in_m (rest:=rest) h hi j
  have hbag:((g.pop rest).inAt o).bag = rest ++ ((g.m o.To.toNat).inn o.F (stOf (g.m o.To.toNat))).2.1:=rfl
  have hT:=(h.log.pos _ ht.tin).1
  have hrest:∀ q,q ∈ rest → q ∈ ((g.pop rest).inAt o).bag:=fun q hq => List.mem_append_left _ hq
  have hor:∀ q,q ∈ g.bag → q = o ∨ q ∈ rest:=fun q hq => by rw [hb] at hq; exact List.mem_cons.1 hq
  by_cases hz:o.To.toNat = 0
  · 
    have hm0:((g.pop rest).inAt o).m 0 = ((g.m 0).inn o.F (stOf (g.m 0))).1:=by rw [hm,if_pos hz.symm,hz]
    have hmj:∀ j,j ≠ 0 → ((g.pop rest).inAt o).m j = g.m j:=fun j hj => by rw [hm,if_neg (by rw [hz]; exact hj)]
    have hto0:o.To = 0:=by omega
    rcases inn0 (st:=stOf (g.m 0)) (h.node 0 hn0) h.log ho.2.1 ht.prop ht.pv ht.prom0 ht.top ht.tp hT with ⟨h1,h2,h3,h4⟩ | ⟨h1,h2,h3,h4,p',h5,h6,h7,h8,h9⟩
    · refine ⟨p,ht.tin,ht.set,ht.tp,ht.top,by rw [hm0,h2]; exact ht.prom0,by rw [hm0]; exact h1,ht.pv,fun k => by rw [hm0,h3]; exact ht.pd k,fun j hj hjn => ?_⟩
      have hjn:j < g.n:=hjn
      have hs:=ht.sj j hj hjn
      unfold Sj at hs ⊢
      rw [hmj j hj]
      rcases hs with e | ⟨e1,e2,q,e3,e4⟩ | ⟨e1,e | ⟨e2,q,e3,e4,e5,e6,e7⟩ | ⟨q,e3,e4⟩⟩
      · exact .inl e
      · rcases hor q e3 with rfl | e5
        · exact absurd e4.1 (by rw [hto0]; omega)
        · exact .inr (.inl ⟨e1,e2,q,hrest q e5,e4⟩)
      · exact .inr (.inr ⟨e1,.inl e⟩)
      · rcases hor q e3 with rfl | e8
        · exact .inr (.inr ⟨e1,.inl ⟨by rw [← e7]; exact h4 e1 e5 e6 (by rw [e7]; omega) (by rw [e7]; exact has_all ht.set hjn hn16),e2⟩⟩)
        · exact .inr (.inr ⟨e1,.inr (.inl ⟨e2,q,hrest q e8,e4,e5,e6,e7⟩)⟩)
      · rcases hor q e3 with rfl | e5
        · exact absurd e4.1 (by rw [hto0]; omega)
        · exact .inr (.inr ⟨e1,.inr (.inr ⟨q,hrest q e5,e4⟩)⟩)
    · have hfz:∃ z:Nat,o.F.From = (z:Int)∧z < g.n:=⟨o.F.From.toNat,by have:=ho.2.1.frm; omega,by have:=ho.2.1.frm; omega⟩
      obtain ⟨z,hfz,hzn⟩:=hfz
      have hpz:(g.m z).prom = T.ID:=by
        have e1:=ho.2.2.1 h2
        rw [hfz,Int.toNat_natCast,h3] at e1
        exact (in_le (h.node z hzn).prom ht.top hT).antisymm e1
      have hwho:∀ j:Nat,j < g.n → has p'.who (j:Int) = true → (g.m j).prom = T.ID:=fun j hj hw => by
        rw [h7,hfz] at hw
        rcases (has_wth (by omega) j).1 hw with e | e
        · exact who_T h ht.top hT hn0 ht.prop ht.pv hj e
        · rw [e]; exact hpz
      refine ⟨p',ht.tin,ht.set,ht.tp,ht.top,by rw [hm0,h8]; exact ht.prom0,by rw [hm0]; exact h5,h6,fun k => ?_,fun j hj hjn => ?_⟩
      · rcases h9 with ⟨e,_⟩ | ⟨_,e,_⟩
        · rw [e] at k; cases k
        · rw [hm0]; exact e
      · have hjn:j < g.n:=hjn
        have hs:=ht.sj j hj hjn
        unfold Sj at hs ⊢
        rw [hmj j hj]
        rcases h9 with ⟨hd,_⟩ | ⟨hd,_,hws,hco⟩
        · have hadd:has p.who (j:Int) = true → has p'.who (j:Int) = true:=fun k => by rw [h7,hfz]; exact (has_wth (by omega) j).2 (.inl k)
          rcases hs with e | ⟨_,e2,_⟩ | ⟨e1,⟨e2,e3⟩ | ⟨e2,q,e3,e4,e5,e6,e7⟩ | ⟨q,e3,e4⟩⟩
          · exact .inl e
          · rw [h1] at e2; cases e2
          · exact .inr (.inr ⟨hd,.inl ⟨hadd e2,e3⟩⟩)
          · rcases hor q e3 with rfl | e8
            · refine .inr (.inr ⟨hd,.inl ⟨?_,e2⟩⟩)
              rw [h7,e7]; exact (has_wth (by omega) j).2 (.inr rfl)
            · exact .inr (.inr ⟨hd,.inr (.inl ⟨e2,q,hrest q e8,e4,e5,e6,e7⟩)⟩)
          · rcases hor q e3 with rfl | e5
            · exact absurd e4.1 (by rw [hto0]; omega)
            · exact .inr (.inr ⟨hd,.inr (.inr ⟨q,hrest q e5,e4⟩)⟩)
        · have hpj:=hwho j hjn (by rw [hws]; exact has_all ht.set hjn hn16)
          have hjl:j ∈ lst (wto T.Set 0):=has_lst.2 (by
            have e1:=has_all ht.set hjn hn16
            have e2:=of_decide_eq_true e1
            refine decide_eq_true ⟨e2.1,e2.2.1,?_⟩
            rw [Int.toNat_natCast]
            exact (wto_bit (z:=0) (by decide) (by omega) (pow16 hn16 (h.log.set _ ht.tin).2.1)).2 ⟨by have:=e2.2.2; rwa [Int.toNat_natCast] at this,hj⟩)
          obtain ⟨q,e3,e4⟩:=hco j hjl
          exact .inr (.inl ⟨hpj,hd,q,by rw [hbag,hz]; exact List.mem_append_right _ e3,e4⟩)
  · 
    have hm0:((g.pop rest).inAt o).m 0 = g.m 0:=by rw [hm,if_neg (fun e => hz e.symm)]
    refine ⟨p,ht.tin,ht.set,ht.tp,ht.top,by rw [hm0]; exact ht.prom0,by rw [hm0]; exact ht.prop,ht.pv,fun k => by rw [hm0]; exact ht.pd k,fun j hj hjn => ?_⟩
    have hjn:j < g.n:=hjn
    have hs:=ht.sj j hj hjn
    have hnoz:o.To ≠ 0:=by omega
    by_cases hji:j = o.To.toNat
    · have hno:=h.node j hjn
      have hst:=inn_step (st:=stOf (g.m j)) hno h.log hjn hn16 ho.2.1 hB rfl
      have hmj:((g.pop rest).inAt o).m j = ((g.m j).inn o.F (stOf (g.m j))).1:=by rw [hm,if_pos hji,← hji]
      have hbj:((g.pop rest).inAt o).bag = rest ++ ((g.m j).inn o.F (stOf (g.m j))).2.1:=by rw [hbag,← hji]
      have hpT:(g.m j).prom = T.ID → ((g.m j).inn o.F (stOf (g.m j))).1.prom = T.ID:=fun e => by
        have e1:=hst.prom
        rw [e] at e1
        exact (in_le hst.node.prom ht.top hT).antisymm e1
      unfold Sj at hs ⊢
      rw [hmj]
      rcases hs with e | ⟨e1,e2,q,e3,e4,e5,e6⟩ | ⟨e1,⟨e2,e3⟩ | ⟨e2,q,e3,e4,e5⟩ | ⟨q,e3,e4,e5,e6⟩⟩
      · refine .inl ?_
        have e1:=hst.cur
        rw [e] at e1
        exact (hst.node.cp.trans (in_le hst.node.prom ht.top hT)).antisymm e1
      · rcases hor q e3 with rfl | e7
        · exact .inl (commit_now hno h.log hjn hn16 hj ho.2.1 e5 e6 ht.tin ht.set ht.tp e1)
        · exact .inr (.inl ⟨hpT e1,e2,q,by rw [hbj]; exact List.mem_append_left _ e7,e4,e5,e6⟩)
      · exact .inr (.inr ⟨e1,.inl ⟨e2,hpT e3⟩⟩)
      · rcases hor q e3 with rfl | e7
        · exact absurd e4 hnoz
        · exact .inr (.inr ⟨e1,.inr (.inl ⟨hpT e2,q,by rw [hbj]; exact List.mem_append_left _ e7,e4,e5⟩)⟩)
      · rcases hor q e3 with rfl | e7
        · obtain ⟨k1,k2⟩:=propose_now (st:=stOf (g.m j)) hno h.log hjn hn16 hj ho.2.1 e5 e6 ht.tin ht.set ht.tp (in_le hno.prom ht.top hT)
          rcases k2 with k2 | ⟨q2,k3,k4⟩
          · exact .inl k2
          · exact .inr (.inr ⟨e1,.inr (.inl ⟨k1,q2,by rw [hbj]; exact List.mem_append_right _ k3,k4⟩)⟩)
        · exact .inr (.inr ⟨e1,.inr (.inr ⟨q,by rw [hbj]; exact List.mem_append_left _ e7,e4,e5,e6⟩)⟩)
    · have hmj:((g.pop rest).inAt o).m j = g.m j:=by rw [hm,if_neg hji]
      unfold Sj at hs ⊢
      rw [hmj]
      rcases hs with e | ⟨e1,e2,q,e3,e4⟩ | ⟨e1,e | ⟨e2,q,e3,e4,e5⟩ | ⟨q,e3,e4⟩⟩
      · exact .inl e
      · rcases hor q e3 with rfl | e5
        · exact absurd e4.1 (by omega)
        · exact .inr (.inl ⟨e1,e2,q,hrest q e5,e4⟩)
      · exact .inr (.inr ⟨e1,.inl e⟩)
      · rcases hor q e3 with rfl | e8
        · exact absurd e4 hnoz
        · exact .inr (.inr ⟨e1,.inr (.inl ⟨e2,q,hrest q e8,e4,e5⟩)⟩)
      · rcases hor q e3 with rfl | e5
        · exact absurd e4.1 (by omega)
        · exact .inr (.inr ⟨e1,.inr (.inr ⟨q,hrest q e5,e4⟩)⟩)
structure Settled (log:List GView) (T:GView) (g:GG):Prop where
  tin:T ∈ log
  set:T.Set = 2 ^ g.n - 1
  top:∀ v ∈ log,VLe v.ID T.ID
  all:∀ i,i < g.n → (g.m i).cur = T
theorem eq_of_has {a b:Nat} (ha:a < 2 ^ n) (hb:b < 2 ^ n) (hn:n ≤ 16) (h:∀ j:Nat,j < n → (has a (j:Int) = true ↔ has b (j:Int) = true)):a = b:=by
  refine eq_of_bits n a b ha hb fun j hj => ?_
  have:=h j hj
  unfold has at this
  rw [decide_eq_true_iff,decide_eq_true_iff,Int.toNat_natCast] at this
  constructor
  · intro k; exact (this.1 ⟨by omega,by omega,k⟩).2.2
  · intro k; exact (this.2 ⟨by omega,by omega,k⟩).2.2
theorem tgt_end (h:Inv B log g) (ht:Tgt log T p g) (hb:g.bag = []):Settled log T g:=by
  have hn0:0 < g.n:=h.n1
  have hno:∀ q,q ∈ g.bag → False:=fun q hq => by rw [hb] at hq; cases hq
  have hd:p.done = true:=by
    cases hd:p.done with
    | true => rfl
    | false =>
      exfalso
      obtain ⟨_,h2,h3,h4⟩:=(h.node 0 hn0).pno p ht.prop hd
      apply h2
      rw [ht.pv,ht.set]
      refine eq_of_has h3 (Nat.sub_lt (Nat.pos_of_ne_zero (by simp)) (by decide)) h.n16 fun j hj => ⟨fun _ => all_has hj h.n16,fun _ => ?_⟩
      by_cases e:j = 0
      · rw [e]; exact h4
      · rcases ht.sj j e hj with k | ⟨_,k,_⟩ | ⟨_,k | ⟨_,q,k,_⟩ | ⟨q,k,_⟩⟩
        · exact absurd (by rw [ht.pv]; exact k) (h.und 0 j hn0 hj p ht.prop hd)
        · rw [hd] at k; cases k
        · exact k.1
        · exact (hno q k).elim
        · exact (hno q k).elim
  refine ⟨ht.tin,ht.set,ht.top,fun i hi => ?_⟩
  by_cases e:i = 0
  · rw [e]; exact ht.pd hd
  · have hid:(g.m i).cur.ID = T.ID:=by
      rcases ht.sj i e hi with k | ⟨_,_,q,k,_⟩ | ⟨k,_⟩
      · exact k
      · exact (hno q k).elim
      · rw [hd] at k; cases k
    rcases (h.node i hi).cur with k | k
    · rw [k] at hid
      have:=(h.log.pos _ ht.tin).1
      rw [← hid] at this
      exact absurd this (by show ¬ 0 < 0; decide)
    · exact h.log.uniq _ k.1 _ ht.tin hid
theorem settled_prom (h:Inv B log g) (hs:Settled log T g) (hi:i < g.n):(g.m i).prom = T.ID:=by
  have h1:=(h.node i hi).cp
  rw [hs.all i hi] at h1
  exact (in_le (h.node i hi).prom hs.top (h.log.pos _ hs.tin).1).antisymm h1
theorem settled_open (h:Inv B log g) (hs:Settled log T g) (hi:i < g.n):(g.m i).opn = true:=by
  unfold MB.opn
  rw [settled_prom h hs hi,hs.all i hi,decide_eq_true (h.log.pos _ hs.tin).1,decide_eq_true rfl]; rfl
theorem settled_tick (h:Inv B log g) (hs:Settled log T g) (hi:i < g.n):(g.m i).tick (2 ^ g.n - 1) (stOf (g.m i)) = (g.m i,(g.m i).again,none)∧(g.m i).tlog (2 ^ g.n - 1) (stOf (g.m i)) log = log:=by
  by_cases h0:i = 0
  · subst h0
    have hnd:(g.m 0).need (2 ^ g.n - 1) = false:=by
      unfold MB.need
      have hp:=settled_prom h hs hi
      have hc:=hs.all 0 hi
      have hah:(g.m 0).ahead (2 ^ g.n - 1) T.ID = false:=ahead_of fun j hj _ => by
        have:=(h.oth 0 j hi hj).2
        rwa [settled_prom h hs hj] at this
      rw [hc,hp,hah,hs.set,decide_eq_false (by simp),decide_eq_false (by have:=(h.log.pos _ hs.tin).1; omega),decide_eq_false (by simp)]; rfl
    have hc:¬ (least ((g.m 0).est (2 ^ g.n - 1)) = ((g.m 0).self:Int)∧(g.m 0).need ((g.m 0).est (2 ^ g.n - 1)) = true∧(g.m 0).under ((g.m 0).est (2 ^ g.n - 1)) = false):=fun k => by
      have h1:=k.2.1
      rw [est_all (h.node 0 hi) hi h.n16,hnd] at h1; cases h1
    exact ⟨tick_no hc,by unfold MB.tlog; rw [if_neg hc]⟩
  · exact tick_other h hi h0
theorem settled_comes (h:Inv B log g) (hB:1 ≤ B) (hs:Settled log T g) (hb:g.bag = o::rest):Settled log T ((g.pop rest).inAt o):=by
  have ho:=h.bag o (by rw [hb]; exact List.mem_cons_self)
  have hi:o.To.toNat < g.n:=by have:=ho.1; omega
  refine ⟨hs.tin,hs.set,hs.top,fun i hin => ?_⟩
  have hin:i < g.n:=hin
  rw [in_m h hi]
  split
  · rename_i e
    have hst:=inn_step (st:=stOf (g.m o.To.toNat)) (h.node _ hi) h.log hi h.n16 ho.2.1 hB rfl
    have e1:=hst.cur
    rw [hs.all _ hi] at e1
    have hT:=(h.log.pos _ hs.tin).1
    have hid:=(hst.node.cp.trans (in_le hst.node.prom hs.top hT)).antisymm e1
    rcases hst.node.cur with k | k
    · rw [k] at hid
      rw [← hid] at hT
      exact absurd hT (by show ¬ 0 < 0; decide)
    · exact h.log.uniq _ k.1 _ hs.tin hid
  · exact hs.all i hin
end
end Go.FM

set_option linter.unusedVariables false
set_option linter.unusedSimpArgs false
namespace Go.FM
open Go
section
variable {B n i j k c:Nat} {log log':List GView} {g g':GG} {m m':MB} {f:GFrame} {o:GOut} {p:GProp} {T:GView} {st:GState} {x v:GViewID} {rest:List GOut}
def isBeat (j:Nat) (o:GOut):Bool:=decide (o.To = 0∧o.F.Kind = 1∧o.F.From = (j:Int))
def beatsOf (bag:List GOut) (j:Nat):List GViewID:=(bag.filter (isBeat j)).map (fun o => o.F.Prom)
def lastBt (g:GG) (j:Nat):GViewID:=(beatsOf g.bag j).getLast?.getD ((g.m 0).other j).2
def KnB (log:List GView) (g:GG) (j:Nat):Prop:=∀ v ∈ log,v.ID.P = (j:Int) → VLe v.ID (lastBt g j)
theorem beatsOf_app (a b:List GOut) (j:Nat):beatsOf (a ++ b) j = beatsOf a j ++ beatsOf b j:=by
  unfold beatsOf; rw [List.filter_append,List.map_append]
theorem beatsOf_nil {l:List GOut} (h:∀ o ∈ l,isBeat j o = false):beatsOf l j = []:=by
  unfold beatsOf
  rw [List.filter_eq_nil_iff.2 (fun o ho => by rw [h o ho]; decide)]; rfl
theorem lastBt_app {l:List GOut} (h:∀ o ∈ l,isBeat j o = false):(beatsOf (g.bag ++ l) j).getLast?.getD x = (beatsOf g.bag j).getLast?.getD x:=by
  rw [beatsOf_app,beatsOf_nil h,List.append_nil]
theorem know_beat (h:Inv B log g) (hi:i < g.n) (h0:i ≠ 0):KnB log (g.beatAt i) i:=by
  intro v hv hP
  have hle:=(h.node i hi).mine v hv hP
  have hall:∀ y ∈ beatsOf (g.beatsTo i g.n) i,y = (g.m i).prom:=fun y hy => by
    obtain ⟨o,ho,rfl⟩:=List.mem_map.1 hy
    obtain ⟨j,_,_,rfl⟩:=beatsTo_mem (List.mem_filter.1 ho).1
    rfl
  have hne:beatsOf (g.beatsTo i g.n) i ≠ []:=by
    intro e
    have h1:(⟨((0:Nat):Int),frBeat i (g.m i)⟩:GOut) ∈ g.beatsTo i g.n:=List.mem_map.2 ⟨0,List.mem_filter.2 ⟨List.mem_range.2 h.n1,decide_eq_true (fun e => h0 e.symm)⟩,rfl⟩
    have h2:(g.m i).prom ∈ beatsOf (g.beatsTo i g.n) i:=List.mem_map.2 ⟨_,List.mem_filter.2 ⟨h1,decide_eq_true ⟨rfl,rfl,rfl⟩⟩,rfl⟩
    rw [e] at h2; cases h2
  show VLe v.ID ((beatsOf (g.bag ++ g.beatsTo i g.n) i).getLast?.getD _)
  rw [beatsOf_app,List.getLast?_append,List.getLast?_eq_some_getLast hne]
  show VLe v.ID ((beatsOf (g.beatsTo i g.n) i).getLast hne)
  rw [hall _ (List.getLast_mem hne)]
  exact hle
theorem know_beat_other (hk:KnB log g j) (hij:j ≠ i):KnB log (g.beatAt i) j:=by
  intro v hv hP
  show VLe v.ID ((beatsOf (g.bag ++ g.beatsTo i g.n) j).getLast?.getD ((g.m 0).other j).2)
  rw [lastBt_app]
  · exact hk v hv hP
  · intro o ho
    obtain ⟨z,_,_,rfl⟩:=beatsTo_mem ho
    refine decide_eq_false fun e => ?_
    have:((i:Nat):Int) = j:=e.2.2
    omega
theorem know_tick (h:Inv B log g) (hB:B < 4611686018427387904) (hi:i < g.n) (hj:j ≠ 0) (hk:KnB log g j):KnB ((g.m i).tlog (2 ^ g.n - 1) (stOf (g.m i)) log) (g.tickAt i (2 ^ g.n - 1)) j:=by
  have hn0:0 < g.n:=h.n1
  have hst:=(tick_step (h.node i hi) h.log hi h.n16 hB (2 ^ g.n - 1) (st:=stOf (g.m i)) rfl).2
  intro v hv hP
  have hvl:v ∈ log:=by
    by_cases h0:i = 0
    · unfold MB.tlog at hv
      split at hv
      · rcases List.mem_cons.1 hv with e | e
        · exfalso
          have e2:v.ID.P = (((g.m i).self:Nat):Int):=by rw [e]; rfl
          rw [(h.node i hi).self,hP] at e2
          omega
        · exact e
      · exact hv
    · rw [(tick_other h hi h0).2] at hv; exact hv
  show VLe v.ID ((beatsOf (g.bag ++ ((g.m i).tick (2 ^ g.n - 1) (stOf (g.m i))).2.1) j).getLast?.getD (((g.tickAt i (2 ^ g.n - 1)).m 0).other j).2)
  rw [lastBt_app (fun o ho => decide_eq_false fun e => (hst.outs o ho).2.2.2.1 e.2.1),tick_m h hi]
  have:(if 0 = i then ((g.m i).tick (2 ^ g.n - 1) (stOf (g.m i))).1 else g.m 0).other j = (g.m 0).other j:=by
    split
    · rename_i e
      subst e
      rcases hst.oth j with e | ⟨e,_⟩
      · exact e
      · exact absurd e (by show (0:Nat) ≠ 1; decide)
    · rfl
  rw [this]
  exact hk v hvl hP
theorem lastBt_comes (h:Inv B log g) (hB:1 ≤ B) (hb:g.bag = o::rest) (hj:j ≠ 0) (hjn:j < g.n):lastBt ((g.pop rest).inAt o) j = lastBt g j:=by
  have hn0:0 < g.n:=h.n1
  have ho:=h.bag o (by rw [hb]; exact List.mem_cons_self)
  have hto:=ho.1
  have hi:o.To.toNat < g.n:=by omega
  have hst:=inn_step (st:=stOf (g.m o.To.toNat)) (h.node _ hi) h.log hi h.n16 ho.2.1 hB rfl
  have hnb:∀ q ∈ ((g.m o.To.toNat).inn o.F (stOf (g.m o.To.toNat))).2.1,isBeat j q = false:=fun q hq => decide_eq_false fun e => (hst.outs q hq).2.2.2.1 e.2.1
  show (beatsOf (rest ++ ((g.m o.To.toNat).inn o.F (stOf (g.m o.To.toNat))).2.1) j).getLast?.getD ((((g.pop rest).inAt o).m 0).other j).2 = (beatsOf g.bag j).getLast?.getD ((g.m 0).other j).2
  rw [beatsOf_app,beatsOf_nil hnb,List.append_nil,hb,in_m h hi]
  by_cases hc:isBeat j o = true
  · obtain ⟨h1,h2,h3⟩:=of_decide_eq_true hc
    have hz:o.To.toNat = 0:=by omega
    have hoth:((g.m 0).inn o.F (stOf (g.m 0))).1.other j = (o.F.Cur,o.F.Prom):=by
      have hno:=h.node 0 hn0
      have hF:=ho.2.1.frm
      unfold MB.inn
      rw [if_neg (by rw [hno.n,hno.self,h3]; omega),if_pos h2]
      have:=other_set (m:=g.m 0) (k:=o.F.From.toNat) (c:=(o.F.Cur,o.F.Prom)) (by rw [hno.len]; have:=h.n16; omega) j
      rw [if_pos (by rw [h3]; omega)] at this
      exact this
    rw [if_pos hz.symm,hz,hoth]
    have:beatsOf (o::rest) j = o.F.Prom::beatsOf rest j:=by
      unfold beatsOf; rw [List.filter_cons_of_pos hc]; rfl
    rw [this,List.getLast?_cons]; rfl
  · have:beatsOf (o::rest) j = beatsOf rest j:=by
      unfold beatsOf; rw [List.filter_cons_of_neg hc]
    rw [this]
    have h9:(if 0 = o.To.toNat then ((g.m o.To.toNat).inn o.F (stOf (g.m o.To.toNat))).1 else g.m 0).other j = (g.m 0).other j:=by
      split
      · rename_i e
        rw [← e] at hst ⊢
        rcases hst.oth j with e2 | ⟨e2,e3,_⟩
        · exact e2
        · exact absurd (decide_eq_true ⟨by omega,e2,e3⟩) hc
      · rfl
    rw [h9]
def fw (f:GFrame):Nat:=if f.Kind = 2 then 2 else 1
def bw:List GOut → Nat
  | [] => 0
  | o::l => fw o.F + bw l
def uw (n:Nat) (m:MB):Nat:=match m.prop with
  | none => 0
  | some p => if p.done = true then 0 else n
def us (n:Nat):List MB → Nat
  | [] => 0
  | m::l => uw n m + us n l
def GG.pot (g:GG):Nat:=bw g.bag + us g.n g.ms
theorem fw_le (f:GFrame):1 ≤ fw f∧fw f ≤ 2:=by unfold fw; split <;> omega
theorem bw_app:∀ (a b:List GOut),bw (a ++ b) = bw a + bw b
  | [],b => by simp [bw]
  | o::a,b => by simp only [List.cons_append,bw,bw_app a b]; omega
theorem bw_le:∀ (a:List GOut),a.length ≤ bw a∧bw a ≤ 2 * a.length
  | [] => ⟨Nat.le_refl _,Nat.le_refl _⟩
  | o::a => by have:=bw_le a; have:=fw_le o.F; simp only [bw,List.length_cons]; omega
theorem bw_one:∀ (a:List GOut),(∀ o ∈ a,o.F.Kind ≠ 2) → bw a = a.length
  | [],_ => rfl
  | o::a,h => by
    have h1:=bw_one a (fun q hq => h q (List.mem_cons_of_mem _ hq))
    have h2:fw o.F = 1:=if_neg (h o List.mem_cons_self)
    simp only [bw,List.length_cons]; omega
theorem uw_le (n:Nat) (m:MB):uw n m ≤ n:=by
  unfold uw
  cases m.prop with
  | none => exact Nat.zero_le _
  | some p => simp only []; split <;> omega
theorem us_le (n:Nat):∀ (l:List MB),us n l ≤ l.length * n
  | [] => by simp [us]
  | m::l => by have:=us_le n l; have:=uw_le n m; simp only [us,List.length_cons,Nat.succ_mul]; omega
theorem us_set (n:Nat) (m':MB):∀ (l:List MB) (i:Nat),i < l.length → us n (l.set i m') + uw n (l.getD i m00) = us n l + uw n m'
  | m::l,0,_ => by simp only [List.set_cons_zero,us,List.getD_cons_zero]; omega
  | m::l,i + 1,h => by
    have:=us_set n m' l i (by simpa using h)
    simp only [List.set_cons_succ,us,List.getD_cons_succ]; omega
theorem pot_le (h:g.ms.length = g.n):g.bag.length ≤ g.pot∧g.pot ≤ 2 * g.bag.length + g.n * g.n:=by
  have h1:=bw_le g.bag
  have h2:=us_le g.n g.ms
  rw [h] at h2
  unfold GG.pot; omega
theorem inn_pot (h:NodeOk log n i B m) (hl:LogOk n B log) (hi:i < n) (hn:n ≤ 16) (hf:FrOk log n B f):bw (m.inn f st).2.1 + uw n (m.inn f st).1 + 1 ≤ fw f + uw n m:=by
  have hfw:=fw_le f
  unfold MB.inn
  split
  · show 0 + uw n m + 1 ≤ _; omega
  split
  · show 0 + uw n m + 1 ≤ _; omega
  split
  · rename_i hk
    have h2:fw f = 2:=if_pos hk
    unfold MB.propose
    split
    · show 0 + uw n m + 1 ≤ _; omega
    split
    · show (1 + 0) + uw n m + 1 ≤ _; omega
    split
    · show (1 + 0) + uw n m + 1 ≤ _; omega
    · show (1 + 0) + uw n m + 1 ≤ _; omega
  split
  · unfold MB.accept
    cases hp:m.prop with
    | none => show 0 + uw n m + 1 ≤ _; omega
    | some p =>
      simp only []
      split
      · rename_i hok
        have hd:p.done = false:=by
          unfold MB.acceptOk at hok
          simp only [Bool.and_eq_true,Bool.not_eq_true'] at hok
          exact hok.1.1.1.1.1
        have hu:uw n m = n:=by unfold uw; rw [hp]; simp only []; rw [if_neg (by rw [hd]; decide)]
        unfold MB.agree
        by_cases hw:wth p.who f.From ≠ p.v.Set
        · rw [if_pos hw]
          have h9:=uw_le n { m with prop:=some { p with who:=wth p.who f.From,states:=p.states ++ f.States } }
          show 0 + uw n { m with prop:=some { p with who:=wth p.who f.From,states:=p.states ++ f.States } } + 1 ≤ fw f + uw n m
          rw [hu]; omega
        · rw [if_neg hw]
          have hset:=hl.set _ (h.pin p hp).1
          have hlen:=lst_len (wto_pow (z:=(m.self:Int)) (pow16 hn hset.2.1) hset.2.1)
          rw [hu]
          show bw (List.map _ (lst (wto p.v.Set m.self))) + 0 + 1 ≤ _
          rw [bw_one _ (fun o ho => by obtain ⟨z,_,rfl⟩:=List.mem_map.1 ho; show (5:Nat) ≠ 2; decide),List.length_map]
          omega
      · show 0 + uw n m + 1 ≤ _; omega
  split
  · cases hp:m.prop with
    | none => 
      simp only []
      show 0 + uw n m + 1 ≤ fw f + uw n m; omega
    | some p =>
      simp only []
      split
      · show 0 + 0 + 1 ≤ _; omega
      · show 0 + uw n m + 1 ≤ fw f + uw n m; omega
  split
  · split
    · show 0 + uw n m + 1 ≤ _; omega
    · show 0 + uw n m + 1 ≤ _; omega
  · show 0 + uw n m + 1 ≤ _; omega
theorem pot_comes (h:Inv B log g) (hb:g.bag = o::rest):((g.pop rest).inAt o).pot + 1 ≤ g.pot:=by
  have ho:=h.bag o (by rw [hb]; exact List.mem_cons_self)
  have hi:o.To.toNat < g.n:=by have:=ho.1; omega
  have h1:=inn_pot (st:=stOf (g.m o.To.toNat)) (h.node _ hi) h.log hi h.n16 ho.2.1
  have h2:=us_set g.n ((g.m o.To.toNat).inn o.F (stOf (g.m o.To.toNat))).1 g.ms o.To.toNat (by rw [h.len]; exact hi)
  show bw (rest ++ ((g.m o.To.toNat).inn o.F (stOf (g.m o.To.toNat))).2.1) + us g.n (g.ms.set o.To.toNat ((g.m o.To.toNat).inn o.F (stOf (g.m o.To.toNat))).1) + 1 ≤ bw g.bag + us g.n g.ms
  rw [bw_app,hb]
  show _ ≤ fw o.F + bw rest + _
  have h3:uw g.n (g.ms.getD o.To.toNat m00) = uw g.n (g.m o.To.toNat):=rfl
  omega
theorem beatsTo_len (g:GG) (i k:Nat):(g.beatsTo i k).length ≤ k:=by
  unfold GG.beatsTo
  rw [List.length_map]
  exact Nat.le_trans (List.length_filter_le _ _) (by rw [List.length_range]; exact Nat.le_refl _)
theorem tick_len (h:Inv B log g) (hB:B < 4611686018427387904) (hi:i < g.n) (e:Nat):(g.tickAt i e).bag.length ≤ g.bag.length + g.n:=by
  have hst:=(tick_step (h.node i hi) h.log hi h.n16 hB e (st:=stOf (g.m i)) rfl).2.len
  show (g.bag ++ _).length ≤ _
  rw [List.length_append]; omega
theorem in_len (h:Inv B log g) (hB:1 ≤ B) (ho:(0 ≤ o.To∧o.To < (g.n:Int))∧FrOk log g.n B o.F):(g.inAt o).bag.length ≤ g.bag.length + g.n:=by
  have hi:o.To.toNat < g.n:=by omega
  have:=(inn_step (st:=stOf (g.m o.To.toNat)) (h.node _ hi) h.log hi h.n16 ho.2 hB rfl).len
  show (g.bag ++ _).length ≤ _
  rw [List.length_append]; omega
theorem comes_len (h:Inv B log g) (hB:1 ≤ B) (k:Nat) (keep hand:Bool):(g.comes k keep hand).bag.length ≤ g.bag.length + g.n:=by
  unfold GG.comes
  split
  · omega
  · rename_i hne
    have hlt:k % g.bag.length < g.bag.length:=Nat.mod_lt _ (List.length_pos_iff.2 hne)
    have hmem:g.bag.getD (k % g.bag.length) o00 ∈ g.bag:=by
      rw [List.getD_eq_getElem?_getD,List.getElem?_eq_getElem hlt]; exact List.getElem_mem hlt
    have ho:=h.bag _ hmem
    have hw:(g.without (k % g.bag.length)).bag.length ≤ g.bag.length:=List.length_eraseIdx_le ..
    cases keep <;> cases hand
    · show (g.without _).bag.length ≤ _; omega
    · have:=in_len (h.without (k % g.bag.length)) hB ⟨ho.1,ho.2.1⟩
      exact Nat.le_trans this (Nat.add_le_add_right hw _)
    · show g.bag.length ≤ _; omega
    · exact in_len h hB ⟨ho.1,ho.2.1⟩
theorem move_len (h:Inv B log g) (hB:1 ≤ B) (hB2:B < 4611686018427387904) (a:GMove):(g.move a).bag.length ≤ g.bag.length + g.n:=by
  have hn:=h.n1
  have hi:a.I % g.n < g.n:=Nat.mod_lt _ (by omega)
  unfold GG.move
  split
  · exact tick_len h hB2 hi _
  split
  · exact comes_len h hB _ _ _
  · show (g.bag ++ _).length ≤ _
    rw [List.length_append]
    have:=beatsTo_len g (a.I % g.n) g.n; omega
theorem comes_n (g:GG) (k:Nat) (keep hand:Bool):(g.comes k keep hand).n = g.n:=by
  unfold GG.comes
  split
  · rfl
  · cases keep <;> cases hand <;> rfl
theorem move_n (g:GG) (a:GMove):(g.move a).n = g.n:=by
  unfold GG.move
  split
  · rfl
  split
  · exact comes_n ..
  · rfl
end
end Go.FM

set_option linter.unusedVariables false
set_option linter.unusedSimpArgs false
namespace Go.FM
open Go
def KnO (log:List GView) (g:GG):Prop:=∀ v ∈ log,v.ID.P ≠ 0 → VLe v.ID ((g.m 0).other v.ID.P.toNat).2
def PhA (k:Nat) (T:GView) (g:GG):Prop:=∃ B log,Inv B log g∧1 ≤ B∧B ≤ 1000 + k * 6000∧((k = 1 → g.bag = []∧KnO log g)∧(2 ≤ k → Settled log T g))∧(1 ≤ k → g.bag = [])
def PhB (k i:Nat) (T:GView) (g:GG):Prop:=∃ B log,Inv B log g∧1 ≤ B∧B ≤ 1000 + k * 6000 + i∧((k = 0 → ∀ j,j < i → j ≠ 0 → KnB log g j)∧(k = 1 → KnO log g)∧(2 ≤ k → Settled log T g))
def PhC (k i:Nat) (T:GView) (g:GG):Prop:=∃ B log,Inv B log g∧1 ≤ B∧B ≤ 1100 + k * 6000 + i∧((k = 0 → ∀ j,j < g.n → j ≠ 0 → KnB log g j)∧(k = 1 → i = 0 → KnO log g)∧(k = 1 → i ≠ 0 → ∃ T p,Tgt log T p g)∧(2 ≤ k → Settled log T g))
def PhD (k c:Nat) (T:GView) (g:GG):Prop:=∃ B log,Inv B log g∧1 ≤ B∧B ≤ 1200 + k * 6000 + c∧((k = 0 → ∀ j,j < g.n → j ≠ 0 → KnB log g j)∧(k = 1 → ∃ T p,Tgt log T p g)∧(2 ≤ k → Settled log T g))
def GOk (g:GG):Prop:=∃ B log,Inv B log g∧1 ≤ B∧B ≤ 800000
section
variable {B n i j k c:Nat} {log log':List GView} {g g':GG} {T:GView} {o:GOut} {rest:List GOut}
theorem Settled.same (hs:Settled log T g) (hn:g'.n = g.n) (hm:∀ j,g'.m j = g.m j):Settled log T g' :=
  ⟨hs.tin,by rw [hn]; exact hs.set,hs.top,fun i hi => by rw [hm]; exact hs.all i (by rw [← hn]; exact hi)⟩
theorem PhA.start (h:Inv B log g) (hB:1 ≤ B) (hB2:B ≤ 1000):PhA 0 T g:=⟨B,log,h,hB,by omega,⟨fun k => (by omega),fun k => (by omega)⟩,fun k => (by omega)⟩
theorem PhA.beats (h:PhA k T g):PhB k 0 T g:=by
  obtain ⟨B,log,h1,h2,h3,⟨h4,h5⟩,h6⟩:=h
  exact ⟨B,log,h1,h2,by omega,fun _ j hj => absurd hj (Nat.not_lt_zero _),fun e => (h4 e).2,h5⟩
theorem PhB.beat (h:PhB k i T g) (hi:i < g.n):PhB k (i + 1) T (g.beatAt i):=by
  obtain ⟨B,log,h1,h2,h3,h4,h5,h6⟩:=h
  refine ⟨B,log,h1.beat hi,h2,by omega,fun e j hj h0 => ?_,fun e => h5 e,fun e => (h6 e).same rfl fun j => rfl⟩
  by_cases hji:j = i
  · subst hji; exact know_beat h1 hi h0
  · exact know_beat_other (h4 e j (by omega) h0) hji
theorem PhB.ticks (h:PhB k g.n T g):PhC k 0 T g:=by
  obtain ⟨B,log,h1,h2,h3,h4,h5,h6⟩:=h
  have:=h1.n16
  exact ⟨B,log,h1,h2,by omega,h4,fun e _ => h5 e,fun _ e => absurd rfl e,h6⟩
theorem PhC.tick (h:PhC k i T g) (hi:i < g.n) (hk:k ≤ 8):PhC k (i + 1) T (g.tickAt i (2 ^ g.n - 1)):=by
  obtain ⟨B,log,h1,h2,h3,h4,h5,h6,h7⟩:=h
  have hn:=h1.n16
  have hB:B < 4611686018427387904:=by omega
  refine ⟨B + 1,_,h1.tick hi hB _,by omega,by omega,fun e j hj h0 => know_tick h1 hB hi h0 (h4 e j hj h0),fun _ e => absurd e (Nat.succ_ne_zero _),fun e _ => ?_,fun e => ?_⟩
  · by_cases h0:i = 0
    · subst h0
      exact tgt_tick0 h1 hB (h5 e rfl)
    · obtain ⟨T,p,ht⟩:=h6 e h0
      rw [(tick_other h1 hi h0).2]
      exact ⟨T,p,tgt_tick h1 ht hi h0⟩
  · have hs:=h7 e
    obtain ⟨e1,e2⟩:=settled_tick h1 hs hi
    rw [e2]
    refine hs.same rfl fun j => ?_
    rw [tick_m h1 hi,e1]
    split
    · rename_i e3; rw [e3]
    · rfl
theorem PhC.frames (h:PhC k g.n T g):PhD k 0 T g:=by
  obtain ⟨B,log,h1,h2,h3,h4,h5,h6,h7⟩:=h
  have hn:=h1.n16
  have hn1:=h1.n1
  exact ⟨B,log,h1,h2,by omega,h4,fun e => h6 e (by omega),h7⟩
theorem PhD.comes (h:PhD k c T g) (hb:g.bag ≠ []):PhD k (c + 1) T (g.comes 0 false true)∧(g.comes 0 false true).pot + 1 ≤ g.pot:=by
  obtain ⟨B,log,h1,h2,h3,h4,h5,h6⟩:=h
  obtain ⟨o,rest,hb⟩:∃ o rest,g.bag = o::rest:=by
    cases e:g.bag with
    | nil => exact absurd e hb
    | cons o l => exact ⟨o,l,rfl⟩
  have hinv:=h1.comes h2 0 false true
  rw [comes_cons hb] at hinv ⊢
  refine ⟨⟨B + 1,log,hinv,by omega,by omega,fun e j hj h0 => ?_,fun e => ?_,fun e => settled_comes h1 h2 (h6 e) hb⟩,pot_comes h1 hb⟩
  · intro v hv hP
    rw [lastBt_comes h1 h2 hb h0 hj]
    exact h4 e j hj h0 v hv hP
  · obtain ⟨T,p,ht⟩:=h5 e
    obtain ⟨p',ht'⟩:=tgt_comes h1 h2 ht hb
    exact ⟨T,p',ht'⟩
theorem PhD.done (h:PhD k c T g) (hb:g.bag = []) (hc:c ≤ 4500):∃ T',PhA (k + 1) T' g∧(2 ≤ k → T' = T):=by
  obtain ⟨B,log,h1,h2,h3,h4,h5,h6⟩:=h
  rcases (by omega:k = 0 ∨ k = 1 ∨ 2 ≤ k) with e | e | e
  · subst e
    refine ⟨T,⟨B,log,h1,h2,by omega,⟨fun _ => ⟨hb,fun v hv hP => ?_⟩,fun k => (by omega)⟩,fun _ => hb⟩,fun k => (by omega)⟩
    have hp:=h1.log.p v hv
    have:=h4 rfl v.ID.P.toNat (by omega) (by omega) v hv (by omega)
    unfold lastBt at this
    rw [hb] at this
    exact this
  · subst e
    obtain ⟨T',p,ht⟩:=h5 rfl
    exact ⟨T',⟨B,log,h1,h2,by omega,⟨fun k => (by omega),fun _ => tgt_end h1 ht hb⟩,fun _ => hb⟩,fun k => (by omega)⟩
  · exact ⟨T,⟨B,log,h1,h2,by omega,⟨fun k => (by omega),fun _ => h6 e⟩,fun _ => hb⟩,fun _ => rfl⟩
theorem PhA.all (h:PhA k T g) (hk:2 ≤ k) (hi:i < g.n):(g.m i).cur = T∧T.Set = 2 ^ g.n - 1∧(g.m i).opn = true:=by
  obtain ⟨B,log,h1,h2,h3,⟨h4,h5⟩,h6⟩:=h
  have hs:=h5 hk
  exact ⟨hs.all i hi,hs.set,settled_open h1 hs hi⟩
theorem PhA.ok (h:PhA k T g) (hk:k ≤ 9):GOk g:=by obtain ⟨B,log,h1,h2,h3,_⟩:=h; exact ⟨B,log,h1,h2,by omega⟩
theorem PhB.ok (h:PhB k i T g) (hk:k ≤ 9) (hi:i ≤ 16):GOk g:=by obtain ⟨B,log,h1,h2,h3,_⟩:=h; exact ⟨B,log,h1,h2,by omega⟩
theorem PhC.ok (h:PhC k i T g) (hk:k ≤ 9) (hi:i ≤ 16):GOk g:=by obtain ⟨B,log,h1,h2,h3,_⟩:=h; exact ⟨B,log,h1,h2,by omega⟩
theorem PhD.ok (h:PhD k c T g) (hk:k ≤ 9) (hc:c ≤ 10000):GOk g:=by obtain ⟨B,log,h1,h2,h3,_⟩:=h; exact ⟨B,log,h1,h2,by omega⟩
theorem GOk.len (h:GOk g):g.ms.length = g.n:=by obtain ⟨B,log,h1,_⟩:=h; exact h1.len
theorem GOk.pot (h:GOk g):g.bag.length ≤ g.pot∧g.pot ≤ 2 * g.bag.length + g.n * g.n:=pot_le h.len
theorem move_beat (hi:i < g.n) {a:GMove} (h1:a.Kind = 8) (h2:a.I = i):g.move a = g.beatAt i:=by
  unfold GG.move; rw [h1,h2,Nat.mod_eq_of_lt hi]; rfl
theorem move_tick (hi:i < g.n) {a:GMove} {e:Nat} (h1:a.Kind = 0) (h2:a.I = i) (h3:a.Est = e):g.move a = g.tickAt i e:=by
  unfold GG.move; rw [h1,h2,h3,Nat.mod_eq_of_lt hi]; rfl
theorem move_next {a:GMove} (h1:a.Kind = 3) (h2:a.Est = 0) (h3:a.Keep = false):g.move a = g.comes 0 false true:=by
  unfold GG.move; rw [h1,h2,h3]; rfl
def RunOk (i:Nat) (g:GG):Prop:=∃ log,Inv (1 + i) log g∧g.bag.length ≤ i * g.n
theorem RunOk.start (h1:1 ≤ n) (h2:n ≤ 16):RunOk 0 (GG.begin_ n):=⟨[],begin_inv h1 h2,by rw [Nat.zero_mul]; exact Nat.zero_le _⟩
theorem RunOk.move (h:RunOk i g) (hi:i ≤ 900) (a:GMove):RunOk (i + 1) (g.move a):=by
  obtain ⟨log,h1,h2⟩:=h
  obtain ⟨log',h3⟩:=move_inv h1 (by omega) (by omega) a
  have h4:=move_len h1 (by omega) (by omega) a
  exact ⟨log',by rw [show 1 + (i + 1) = 1 + i + 1 by omega]; exact h3,by rw [move_n,Nat.succ_mul]; omega⟩
theorem RunOk.acc (h:RunOk i g) (hi:i ≤ 900) (a:GMove) (hk:k < g.n):AccAt g (g.move a) k:=by
  obtain ⟨log,h1,h2⟩:=h
  exact move_acc h1 (by omega) (by omega) a k hk
theorem RunOk.ok (h:RunOk i g) (hi:i ≤ 900):GOk g:=by obtain ⟨log,h1,h2⟩:=h; exact ⟨_,log,h1,by omega,by omega⟩
theorem RunOk.calm (h:RunOk i g) (hi:i ≤ 900):PhA 0 T g:=by obtain ⟨log,h1,h2⟩:=h; exact PhA.start h1 (by omega) (by omega)
end
end Go.FM

set_option linter.unusedVariables false
set_option linter.unusedSimpArgs false
namespace Go.FM
open Go
section
variable {P:Program} {ops:Array Oper} {Q:Exit → Act → World → Prop} {K:Act → World → Prop} {a:Act} {w:World} {N:Nat} {ρ:Nat → Value} {C:World → Prop} {Qa Ka:Act → Prop} {o:Oper}
theorem upon_join {next next':Act → World → Prop} (hn:∀ a w,next a w → next' a w) (h:o.wp P a w next (Qn K)):o.wp P a w next' Q:=by
  unfold Oper.wp at h ⊢
  generalize (execOp a.eval o).run P w = r at h ⊢
  cases r with
  | ok n w' =>
    cases n <;> simp only [Oper.upon] at h ⊢
    case value v => exact hn _ _ h
    case skip => exact hn _ _ h
    case defer d => exact hn _ _ h
    case enter f args =>
      refine Calls.mono h fun e w'' he => ?_
      cases e with
      | returned v => exact hn _ _ he
      | panicked c => exact absurd he.1 (by intro e; cases e)
      | outgrown => exact absurd he not_letsOut
    case row row args => exact Rows.mono h fun v w'' he => hn _ _ he
  | halt x w' =>
    cases x <;> simp only [Oper.upon] at h ⊢
    case panic v => exact absurd h.1 (by intro e; cases e)
theorem wpList_app:∀ (l1 l2:List Oper) (a:Act) (w:World),wpList P ops (Qn (wpList P ops Q l2)) l1 a w → wpList P ops Q (l1 ++ l2) a w
  | [],l2,a,w,h => h.2
  | o::l1,l2,a,w,h => by
    simp only [wpList,List.cons_append] at h ⊢
    split
    · rename_i hw
      rw [if_pos hw] at h
      left
      rcases h with h | ⟨_,h⟩
      · exact upon_join (fun a w h => wpList_app l1 l2 a w h) h
      · exact absurd h not_letsOut
    · rename_i hw
      rw [if_neg hw] at h
      exact wpList_app l1 l2 _ w h
theorem wpQuiet_app:∀ (l1 l2:List Oper) (a:Act),wpQuiet P ops C (wpQuiet P ops C Qa l2) l1 a → wpQuiet P ops C Qa (l1 ++ l2) a
  | [],l2,a,h => h
  | o::l1,l2,a,h => by
    simp only [wpQuiet,List.cons_append] at h ⊢
    split
    · rename_i hw
      rw [if_pos hw] at h
      exact Oper.quiet_mono (fun a h => wpQuiet_app l1 l2 a h) h
    · rename_i hw
      rw [if_neg hw] at h
      exact wpQuiet_app l1 l2 _ h
theorem wpList_mono {K K':Act → World → Prop} (hk:∀ a w,K a w → K' a w):∀ (l:List Oper) (a:Act) (w:World),wpList P ops (Qn K) l a w → wpList P ops (Qn K') l a w
  | [],a,w,h => ⟨h.1,hk a w h.2⟩
  | o::l,a,w,h => by
    simp only [wpList] at h ⊢
    split
    · rename_i hw
      rw [if_pos hw] at h
      left
      rcases h with h | ⟨_,h⟩
      · exact upon_join (fun a w h => wpList_mono hk l a w h) h
      · exact absurd h not_letsOut
    · rename_i hw
      rw [if_neg hw] at h
      exact wpList_mono hk l _ w h
theorem wpQuiet_mono {Q':Act → Prop} (hk:∀ a,Qa a → Q' a):∀ (l:List Oper) (a:Act),wpQuiet P ops C Qa l a → wpQuiet P ops C Q' l a
  | [],a,h => hk a h
  | o::l,a,h => by
    simp only [wpQuiet] at h ⊢
    split
    · rename_i hw
      rw [if_pos hw] at h
      exact Oper.quiet_mono (fun a h => wpQuiet_mono hk l a h) h
    · rename_i hw
      rw [if_neg hw] at h
      exact wpQuiet_mono hk l _ h
theorem jn {l:List Oper} (k:Nat) (S:(Nat → Value) → Prop) (h:wpList P ops (Qn fun a' w' => ∃ ρ',a' = en N ρ'∧w' = w∧S ρ') (l.take k) (en N ρ) w) (c:∀ ρ',S ρ' → wpList P ops Q (l.drop k) (en N ρ') w):wpList P ops Q l (en N ρ) w:=by
  have h2:=wpList_app (Q:=Q) (l.take k) (l.drop k) (en N ρ) w (wpList_mono (fun a' w' h => by obtain ⟨ρ',rfl,rfl,hS⟩:=h; exact c ρ' hS) _ _ _ h)
  rwa [List.take_append_drop] at h2
theorem jw {l:List Oper} (k:Nat) (S:(Nat → Value) → World → Prop) (h:wpList P ops (Qn fun a' w' => ∃ ρ',a' = en N ρ'∧S ρ' w') (l.take k) (en N ρ) w) (c:∀ ρ' w',S ρ' w' → wpList P ops Q (l.drop k) (en N ρ') w'):wpList P ops Q l (en N ρ) w:=by
  have h2:=wpList_app (Q:=Q) (l.take k) (l.drop k) (en N ρ) w (wpList_mono (fun a' w' h => by obtain ⟨ρ',rfl,hS⟩:=h; exact c ρ' w' hS) _ _ _ h)
  rwa [List.take_append_drop] at h2
theorem jw_end {S:(Nat → Value) → World → Prop} (h:S ρ w):wpList P ops (Qn fun a' w' => ∃ ρ',a' = en N ρ'∧S ρ' w') [] (en N ρ) w:=⟨rfl,ρ,rfl,h⟩
theorem jq {l:List Oper} (k:Nat) (S:(Nat → Value) → Prop) (h:wpQuiet P ops C (fun a' => ∃ ρ',a' = en N ρ'∧S ρ') (l.take k) (en N ρ)) (c:∀ ρ',S ρ' → wpQuiet P ops C Qa (l.drop k) (en N ρ')):wpQuiet P ops C Qa l (en N ρ):=by
  have h2:=wpQuiet_app (Qa:=Qa) (l.take k) (l.drop k) (en N ρ) (wpQuiet_mono (fun a' h => by obtain ⟨ρ',rfl,hS⟩:=h; exact c ρ' hS) _ _ h)
  rwa [List.take_append_drop] at h2
theorem jq_end {S:(Nat → Value) → Prop} (h:S ρ):wpQuiet P ops C (fun a' => ∃ ρ',a' = en N ρ'∧S ρ') [] (en N ρ):=⟨ρ,rfl,h⟩
end
section
variable {a b:Bool} {p q:Prop}
theorem jor_f (h:a = false):b = (a || b):=by rw [h]; rfl
theorem jor_t (h:a = true):true = (a || b):=by rw [h]; rfl
theorem jand_t (h:a = true):b = (a && b):=by rw [h]; rfl
theorem jand_f (h:a = false):false = (a && b):=by rw [h]; rfl
theorem J_or (h:a = true ↔ p) (k:b = true ↔ q):(a || b) = true ↔ (p ∨ q):=by rw [Bool.or_eq_true,h,k]
theorem J_and (h:a = true ↔ p) (k:b = true ↔ q):(a && b) = true ↔ (p∧q):=by rw [Bool.and_eq_true,h,k]
theorem J_not (h:a = true ↔ p):(!a) = true ↔ ¬ p:=by rw [Bool.not_eq_true',← h,Bool.not_eq_true]
theorem J_no (h:a = true ↔ p) (k:a = false):¬ p:=fun hp => by rw [h.2 hp] at k; cases k
end
end Go.FM

set_option linter.unusedVariables false
set_option linter.unusedSimpArgs false
namespace Go.FM
open Go
section
variable {P:Program} {N:Nat} {ρ:Nat → Value} {w:World} {ty:TypeId} {x y:Operand} {ats:Array TypeId} {k:IntKind}
theorem x_maxN {a b:Nat} (hx:Ev N ρ x (.int k ((a:Nat):Int))) (hy:Ev N ρ y (.int k ((b:Nat):Int))):Ex P N ρ w (.call { callee:=.builtin .max,args:=#[x,y],argTypes:=ats }) ty (.int k ((max a b:Nat):Int)) w:=fun _ _ _ _ => by
  have h1:(en N ρ).eval x = .int k ((a:Nat):Int):=hx
  have h2:(en N ρ).eval y = .int k ((b:Nat):Int):=hy
  simp [execOp,resolve,invoke,builtin,h1,h2,Builtin.max_,Builtin.max2]
  split <;> omega
end
end Go.FM

set_option linter.unusedVariables false
set_option linter.unusedSimpArgs false
namespace Go.FM
open Go
section
variable {P:Program} {Q:Exit → Act → World → Prop} {N:Nat} {ρ:Nat → Value} {H:Hp} {w w':World} {L:List Res} {t ty e e' size bytes n m c g cap o k:Nat} {v:Value} {xs news:List Value} {x y:Operand} {z:Value} {ops:Array Oper} {rest:List Oper} {pos:String} {aft:Array Edge}
theorem St.putRow (h:St H w (row e size v n xs::L)) (hv:v = .slice (some ⟨g,0,none⟩) n cap) (hl:o + news.length ≤ xs.length) (h1:∀ u ∈ news,u.oneCell' = true) :
    ∃ w',(storeCells ⟨g,o,none⟩ news).run P w = .ok () w'∧St H w' (row e size v n (splice xs o news)::L):=by
  obtain ⟨cur,hg,ht,hcs,hnc,hcm⟩:=h.rowIn 0 rfl hv
  have hxl:xs.length = n * size:=by
    rw [← ht,List.length_take,Array.length_toList,hcs]
    exact Nat.min_eq_left (Nat.mul_le_mul_right _ hnc)
  have hlen:xs.length ≤ cur.size:=by rw [hxl,hcs]; exact Nat.mul_le_mul_right _ hnc
  have hr:=run_storeCells_at P g o e news 0 cur w hg (by omega) h1
  refine ⟨_,hr,?_⟩
  subst hv
  refine h.write (g:=g) (w':=w.setRow g _) rfl rfl rfl rfl (fun b hb hne => setRow_other w g b _ hne) (setRow_heap w g _ _ e _ hg) ⟨g,cap,_,rfl,rfl,hnc,hcm,?_,?_⟩
  · simp only [List.size_toArray,List.length_append,List.length_take,List.length_drop,Array.length_toList]; omega
  · apply List.ext_getElem?
    intro j
    rw [splice_get (by omega),List.getElem?_take]
    have hsg:=splice_get (cs:=cur.toList) (vs:=news) (i:=o) (by simp only [Array.length_toList]; omega) j
    simp only [splice] at hsg
    simp only [Nat.add_zero]
    rw [hsg]
    by_cases h2:j < n * size
    · rw [if_pos h2]
      split
      · rfl
      · rw [← ht,List.getElem?_take,if_pos h2]
    · rw [if_neg h2]
      split
      · omega
      · exact (List.getElem?_eq_none (by omega)).symm
theorem m_copyRow {dn dc sc:Nat} {a:Addr} (hu:P.underlying t = some (.slice e')) (hi:Inf P e' z size bytes) (h:St H w (row e size v n xs::L)) (hv:v = .slice (some ⟨g,0,none⟩) n cap)
    (hx:Ev N ρ x (.slice (some ⟨g,o,none⟩) dn dc)) (hy:Ev N ρ y (.slice (some a) m sc)) (hk:Nat.min m dn = k) (hnews:At w a news) (hl:news.length = k * size) (ho:o + k * size ≤ xs.length) (h1:∀ u ∈ news,u.oneCell' = true) :
    ∃ v' w',Ex P N ρ w (.call { callee:=.builtin .copy,args:=#[x,y],argTypes:=#[t,t] }) ty v' w'∧v' = .int .i64 (k:Int)∧St H w' (row e size v n (splice xs o news)::L):=by
  obtain ⟨w',hr,hs⟩:=h.putRow (P:=P) hv (o:=o) (news:=news) (by rw [hl]; exact ho) h1
  refine ⟨_,w',fun _ _ _ _ => ?_,rfl,hs⟩
  have e1:(en N ρ).eval x = .slice (some ⟨g,o,none⟩) dn dc:=hx
  have e2:(en N ρ).eval y = .slice (some a) m sc:=hy
  obtain ⟨i0,f1,_,f3,_⟩:=hi
  have hlc:=run_loadCells_list (P:=P) w a news hnews
  rw [hl] at hlc
  have hcp:(Builtin.copy_ #[t,t] ty #[.slice (some ⟨g,o,none⟩) dn dc,.slice (some a) m sc]).run P w = .ok (.int .i64 (k:Int)) w':=by
    simp only [Builtin.copy_,Sem.run_bind,run_underlying hu,Result.andThen_ok,Builtin.lenOf,Sem.run_pure,sizeOf,typeInfo,run_program,f1,Builtin.firstCells,f3,hk]
    simp [run_underlying hu,Sem.run_bind,sizeOf,typeInfo,f1,f3,hk,hlc,hr,goInt]
  simp [execOp,resolve,invoke,builtin,e1,e2,hcp]
theorem zeroCells_list (zc:List Value) (k:Nat) (h:0 < zc.length):(Builtin.zeroCells zc.toArray k).toList = (List.replicate k zc).flatten:=by
  have:=range_cells zc k h
  have e:Builtin.zeroCells zc.toArray k = (Array.range (k * zc.length)).map fun i => zc.toArray[i % zc.toArray.size]!:=by simp [Builtin.zeroCells]
  rw [e,this]
theorem m_appZeros {tn:Nat} {kq kn:IntKind} {A:Option Addr} (hu:P.underlying t = some (.slice e)) (htn:P.underlying tn = some (.int kn)) (hi:Inf P e z size bytes) (hzs:z.cells.toList.length = size) (h0:0 < size) (h:St H w L)
    (hx:Ev N ρ x (.slice A n cap)) (hold:xs = [] ∨ ∃ a,A = some a∧At w a xs) (hxl:xs.length = n * size) (hy:Ev N ρ y (.int kq ((k:Nat):Int))) (hk0:0 < k) (hg:cap < n + k) (hb:(n + k) * bytes ≤ 140737488355328) (hb0:0 < bytes) :
    ∃ v' w',Ex P N ρ w (.call { callee:=.builtin .append,args:=#[x,y],argTypes:=#[t,tn] }) ty v' w'∧RowOk size v' (n + k) (xs ++ (List.replicate k z.cells.toList).flatten) ∧
      St H w' (row e size v' (n + k) (xs ++ (List.replicate k z.cells.toList).flatten)::L):=by
  obtain ⟨i0,f1,f2,f3,f4⟩:=hi
  have hnk:n + k ≤ (n + k) * bytes:=Nat.le_mul_of_pos_right _ hb0
  have hfc:(Builtin.firstCells i0.size n (.slice A n cap)).run P w.drew = .ok xs.toArray w.drew:=by
    rw [f3]
    rcases hold with rfl | ⟨a,rfl,hat⟩
    · simp only [List.length_nil] at hxl
      have h1:n * size = 0:=by omega
      cases A with
      | none => simp [Builtin.firstCells]
      | some a => simp [Builtin.firstCells,h1,loadCells,loadCellsFrom]
    · have hat':At w.drew a xs:=fun j u hu => hat j u hu
      have:=run_loadCells_list (P:=P) w.drew a xs hat'
      rw [hxl] at this
      simp [Builtin.firstCells,this]
  have hkb:k * i0.bytes ≤ 281474976710656:=by
    rw [f4]
    have:k * bytes ≤ (n + k) * bytes:=Nat.mul_le_mul_right _ (by omega)
    omega
  have hr:=Lib.run_append_grow_zeros (P:=P) w t tn ty e i0 z kq kn hu htn f1 f2 A n cap xs hfc k hk0 (by rw [f3]; exact h0) hg (by omega) hkb (growslice_fits hg (by rw [f4]; exact hb))
  have hge:=grownCap_ge w (n + k) cap e
  have hcm:grownCap w (n + k) cap e ≤ maxLen:=grownCap_le_maxLen w (n + k) cap e (by simp only [maxLen]; omega)
  have hzt:Builtin.zeroCells z.cells = Builtin.zeroCells z.cells.toList.toArray:=by rw [Array.toArray_toList]
  have hzl:∀ q,(Builtin.zeroCells z.cells q).toList = (List.replicate q z.cells.toList).flatten:=fun q => by rw [hzt]; exact zeroCells_list _ _ (by omega)
  have hfl:∀ q,((List.replicate q z.cells.toList).flatten).length = q * size:=fun q => by simp [hzs]
  have hs:=h.drew.alloc (.cells (xs.toArray ++ Builtin.zeroCells z.cells k ++ Builtin.zeroCells z.cells (grownCap w (n + k) cap e - (n + k))) e)
  have hd:w.drew.heap.size = w.heap.size:=rfl
  refine ⟨_,_,fun _ _ _ _ => ?_,⟨?_,?_,.inr ⟨w.heap.size,_,rfl,hge⟩⟩,hs.say (ok':=(row e size (.slice (some ⟨w.heap.size,0,none⟩) (n + k) (grownCap w (n + k) cap e)) (n + k) (xs ++ (List.replicate k z.cells.toList).flatten)).ok) fun o ho => ⟨w.heap.size,_,_,rfl,ho,hge,hcm,?_,?_⟩⟩
  · have q1:(en N ρ).eval x = .slice A n cap:=hx
    have q2:(en N ρ).eval y = .int kq ((k:Nat):Int):=hy
    simp [execOp,resolve,invoke,builtin,q1,q2,hr]
  · rw [List.length_append,hxl,hfl,Nat.add_mul]
  · simp only [maxLen]; omega
  · simp only [Array.size_append,List.size_toArray,hxl]
    have:∀ q,(Builtin.zeroCells z.cells q).size = q * size:=fun q => by rw [← Array.length_toList,hzl,hfl]
    rw [this,this,← Nat.add_mul,← Nat.add_mul]; congr 1; omega
  · simp only [Array.toList_append,hzl,List.append_assoc]
    rw [← List.append_assoc,List.take_append_of_le_length (by rw [List.length_append,hxl,hfl,Nat.add_mul]; exact Nat.le_refl _),List.take_of_length_le (by rw [List.length_append,hxl,hfl,Nat.add_mul]; exact Nat.le_refl _)]
theorem St.shrink (h:St H w (row e size (.slice (some ⟨g,0,none⟩) n cap) n xs::L)) (hk:k ≤ n):St H w (row e size (.slice (some ⟨g,0,none⟩) k cap) k (xs.take (k * size))::L) :=
  h.say (ok':=(row e size (.slice (some ⟨g,0,none⟩) k cap) k (xs.take (k * size))).ok) fun o ⟨g',cap',cur,e1,e2,h1,h2,h3,h4⟩ => by
    injection e1 with ea eb ec
    injection ea with ea
    injection ea with ea
    subst ea; subst ec
    refine ⟨g,cap,cur,rfl,e2,by omega,h2,h3,?_⟩
    rw [← h4,List.take_take,Nat.min_eq_left (Nat.mul_le_mul_right _ hk)]
theorem RowOk.shrink (ok:RowOk size (.slice (some ⟨g,0,none⟩) n cap) n xs) (hk:k ≤ n):RowOk size (.slice (some ⟨g,0,none⟩) k cap) k (xs.take (k * size)):=by
  refine ⟨?_,Nat.le_trans hk ok.2.1,.inr ⟨g,cap,rfl,?_⟩⟩
  · rw [List.length_take,ok.1,Nat.min_eq_left (Nat.mul_le_mul_right _ hk)]
  · rcases ok.2.2 with ⟨h,_⟩ | ⟨g',cap',h,hc⟩
    · cases h
    · injection h with _ _ h
      subst h; omega
theorem St.stretch (h:St H w (row e size (.slice (some ⟨g,0,none⟩) n cap) n xs::L)) (hk:n ≤ k) (hc:k ≤ cap):∃ junk,junk.length = (k - n) * size∧RowOk size (.slice (some ⟨g,0,none⟩) k cap) k (xs ++ junk)∧St H w (row e size (.slice (some ⟨g,0,none⟩) k cap) k (xs ++ junk)::L):=by
  obtain ⟨cur,hg,ht,hcs,hnc,hcm⟩:=h.rowIn 0 rfl rfl
  have hxl:xs.length = n * size:=by
    rw [← ht,List.length_take,Array.length_toList,hcs]
    exact Nat.min_eq_left (Nat.mul_le_mul_right _ hnc)
  have htk:cur.toList.take (k * size) = xs ++ (cur.toList.take (k * size)).drop (n * size):=by
    rw [← ht]
    have:(cur.toList.take (k * size)).take (n * size) = cur.toList.take (n * size):=by rw [List.take_take,Nat.min_eq_left (Nat.mul_le_mul_right _ hk)]
    rw [← this]; exact (List.take_append_drop _ _).symm
  have hjl:((cur.toList.take (k * size)).drop (n * size)).length = (k - n) * size:=by
    rw [List.length_drop,List.length_take,Array.length_toList,hcs,Nat.min_eq_left (Nat.mul_le_mul_right _ hc),← Nat.sub_mul]
  refine ⟨_,hjl,⟨?_,Nat.le_trans hc hcm,.inr ⟨g,cap,rfl,hc⟩⟩,?_⟩
  · rw [List.length_append,hxl,hjl,← Nat.add_mul]; congr 1; omega
  · obtain ⟨h1,o,h2,h3⟩:=h.own _ List.mem_cons_self g rfl
    rw [hg] at h2; injection h2 with h2; subst h2
    have hs:=List.pairwise_cons.1 h.sep
    refine ⟨h.os,h.out,h.tape,h.fz,fun r hr g' hk' => ?_,List.pairwise_cons.2 ⟨fun s hs' g' hk' => hs.1 s hs' g' hk',hs.2⟩⟩
    rcases List.mem_cons.1 hr with rfl | hr
    · have:g' = g:=by simpa [row,Value.ownBlock] using hk'.symm
      subst this
      exact ⟨h1,_,hg,g',cap,cur,rfl,rfl,hc,hcm,hcs,htk⟩
    · exact h.own r (List.mem_cons_of_mem _ hr) g' hk'
theorem m_clearRow {dn dc:Nat} (hu:P.underlying t = some (.slice e')) (hi:Inf P e' z size bytes) (hzs:z.cells.toList.length = size) (h0:0 < size) (h:St H w (row e size v n xs::L)) (hv:v = .slice (some ⟨g,0,none⟩) n cap)
    (hx:Ev N ρ x (.slice (some ⟨g,o,none⟩) dn dc)) (ho:o + dn * size ≤ xs.length) (h1:∀ u ∈ z.cells.toList,u.oneCell' = true) :
    ∃ v' w',Ex P N ρ w (.call { callee:=.builtin .clear,args:=#[x],argTypes:=#[t] }) ty v' w'∧St H w' (row e size v n (splice xs o (List.replicate dn z.cells.toList).flatten)::L):=by
  have hfl:((List.replicate dn z.cells.toList).flatten).length = dn * size:=by simp [hzs]
  have h1':∀ u ∈ (List.replicate dn z.cells.toList).flatten,u.oneCell' = true:=fun u hu => by
    obtain ⟨l,hl,hul⟩:=List.mem_flatten.1 hu
    rw [List.eq_of_mem_replicate hl] at hul
    exact h1 u hul
  obtain ⟨w',hr,hs⟩:=h.putRow (P:=P) hv (o:=o) (news:=(List.replicate dn z.cells.toList).flatten) (by rw [hfl]; exact ho) h1'
  have e1:(en N ρ).eval x = .slice (some ⟨g,o,none⟩) dn dc:=hx
  obtain ⟨i0,f1,f2,f3,_⟩:=hi
  have hzt:Builtin.zeroCells z.cells dn = ((List.replicate dn z.cells.toList).flatten).toArray:=by
    apply Array.ext'
    have:Builtin.zeroCells z.cells dn = Builtin.zeroCells z.cells.toList.toArray dn:=by rw [Array.toArray_toList]
    rw [this,zeroCells_list _ _ (by omega)]
  cases dn with
  | zero =>
    have hw:w' = w:=by
      simp [storeCells] at hr
      exact hr.symm
    refine ⟨.tuple #[],w',fun _ _ _ _ => ?_,hs⟩
    have hcl:(Builtin.clear_ #[t] ty #[.slice (some ⟨g,o,none⟩) 0 dc]).run P w = .ok (.tuple #[]) w:=by
      simp [Builtin.clear_,run_underlying hu]
    rw [hw]
    simp [execOp,resolve,invoke,builtin,e1,hcl]
  | succ dn =>
    refine ⟨.tuple #[],w',fun _ _ _ _ => ?_,hs⟩
    have hcl:(Builtin.clear_ #[t] ty #[.slice (some ⟨g,o,none⟩) (dn + 1) dc]).run P w = .ok (.tuple #[]) w':=by
      simp [Builtin.clear_,run_underlying hu,zeroValue,typeInfo,f1,f2,hzt,hr]
    simp [execOp,resolve,invoke,builtin,e1,hcl]
theorem st_mv0 {op:Op} {F:Value → World → Prop} (h:∃ v w',Ex P N ρ w op ty v w'∧F v w') (k:∀ v w',F v w' → wpList P ops Q rest (en N ρ) w'):wpList P ops Q (⟨none,op,ty,pos,aft,none⟩::rest) (en N ρ) w:=by
  obtain ⟨v,w',hr,hF⟩:=h
  refine wpList_plain rfl fun K hK => ?_
  unfold Oper.wp
  rw [hr]
  simp only [Oper.upon,en_put_none]
  exact hK _ _ (k v w' hF)
end
theorem x_overlaps {P:Program} {N:Nat} {ρ:Nat → Value} {H:Hp} {w:World} {L:List Res} {f tS tR e size:Nat} {fn:Func} {fv x y:Operand} {ats:Array TypeId} {ty:Nat} {z:Value} {bytes:Nat}
    (hf:P.funcs[f]? = some fn) (hname:(fn.name == "runtime.NumGoroutine") = false) (hb:fn.body.isNone = true) (hn:Extern.findNext fn = none) (he:Extern.find fn = some (Extern.SlicesOverlaps.overlaps #[tS,tS] #[tR]))
    (ht:P.underlying tS = some (.slice e)) (hi:Inf P e z size bytes) (h:St H w L) {i j:Nat} {gv Tv gr er sz n cap o la ca lb cb:Nat} {cs xs:List Value}
    (hiv:L[i]? = some (obj gv Tv cs)) (hjr:L[j]? = some (row er sz (.slice (some ⟨gr,0,none⟩) n cap) n xs)) (hij:i ≠ j) (hn0:0 < n * sz)
    (hfv:Ev N ρ fv (.func (.func f) #[] #[])) (hx:Ev N ρ x (.slice (some ⟨gv,0,none⟩) la ca)) (hy:Ev N ρ y (.slice (some ⟨gr,o,none⟩) lb cb)) :
    Ex P N ρ w (.call { callee:=.value fv,args:=#[x,y],argTypes:=ats }) ty (.bool false) w:=fun _ _ _ _ => by
  have hv:=h.heapIn i hiv
  obtain ⟨cur,hg,htk,hcs,hnc,hcm⟩:=h.rowIn j hjr rfl
  have hne:gv ≠ gr:=fun hh => by
    subst hh
    have hp:=List.pairwise_iff_getElem.1 h.sep
    obtain ⟨hi1,e1⟩:=List.getElem?_eq_some_iff.1 hiv
    obtain ⟨hj1,e2⟩:=List.getElem?_eq_some_iff.1 hjr
    rcases Nat.lt_or_gt_of_ne hij with hlt | hlt
    · have:=hp i j hi1 hj1 hlt gv (by rw [e1]; rfl)
      rw [e2] at this; exact this rfl
    · have:=hp j i hj1 hi1 hlt gv (by rw [e2]; rfl)
      rw [e1] at this; exact this rfl
  obtain ⟨i0,f1,_,f3,_⟩:=hi
  have hsz:∀ w:World,(Go.sizeOf e).run P w = .ok size w:=fun w => by simp [sizeOf,typeInfo,f1,f3]
  have hcap:0 < cap * sz:=Nat.lt_of_lt_of_le hn0 (Nat.mul_le_mul_right _ hnc)
  have hov:=Lib.run_overlaps_apart (P:=P) w tS tR e ht size hsz ⟨gv,0,none⟩ ⟨gr,o,none⟩ la ca lb cb hne Tv er cs.length cur.size (by simp [World.shape?,hv]) (by simp [World.shape?,hg]) (by rw [hcs]; omega)
    (by simp [World.frozen?,hv]) (by simp [World.frozen?,hv])
  have hcf:=run_callFunc_extern (P:=P) (f:=f) hf hname hb hn he #[.slice (some ⟨gv,0,none⟩) la ca,.slice (some ⟨gr,o,none⟩) lb cb] w
  rw [hov] at hcf
  have q1:(en N ρ).eval fv = .func (.func f) #[] #[]:=hfv
  have q2:(en N ρ).eval x = .slice (some ⟨gv,0,none⟩) la ca:=hx
  have q3:(en N ρ).eval y = .slice (some ⟨gr,o,none⟩) lb cb:=hy
  simp [execOp,resolve,Deferred.ofValue,q1,q2,q3,invoke,hcf]
end Go.FM
namespace Go.FM
open Go
theorem cutA_some {g c l size:Nat} (h:l < c):cutA (some ⟨g,0,none⟩) c l size = some ⟨g,l * size,none⟩:=by
  unfold cutA
  rw [if_neg (by omega)]
  simp [add_none]
section
variable {α:Type} {d:Kd α} {H:Hp} {w:World} {L:List Res} {e n g cap:Nat} {cs:List Value} {xs:List α}
end
theorem ins_grow {cs cy zs:List Value} {i n sz:Nat} (hc:cs.length = n * sz) (hy:cy.length = sz) (hz:zs.length = (n + 1 - i) * sz) (hi:i < n) :
    splice (splice (cs.take (i * sz) ++ zs) (i * sz) cy) ((i + 1) * sz) (cs.drop (i * sz)) = cs.take (i * sz) ++ cy ++ cs.drop (i * sz):=by
  have h1:i * sz ≤ cs.length:=by rw [hc]; exact Nat.mul_le_mul_right _ (by omega)
  have h2:(i + 1) * sz = i * sz + sz:=by rw [Nat.add_mul,Nat.one_mul]
  have h3:(n + 1 - i) * sz = (n - i) * sz + sz:=by rw [show n + 1 - i = (n - i) + 1 by omega,Nat.add_mul,Nat.one_mul]
  have h4:(n - i) * sz = n * sz - i * sz:=Nat.sub_mul _ _ _
  have ht:(cs.take (i * sz)).length = i * sz:=by rw [List.length_take]; omega
  have hd:(cs.drop (i * sz)).length = n * sz - i * sz:=by rw [List.length_drop,hc]
  have hl1:(cs.take (i * sz) ++ zs).length = n * sz + sz:=by rw [List.length_append,ht,hz,h3,h4]; omega
  have hl2:(splice (cs.take (i * sz) ++ zs) (i * sz) cy).length = n * sz + sz:=by rw [splice_length (by omega),hl1]
  apply List.ext_getElem?
  intro j
  rw [splice_get (by rw [hl2,hd]; omega),splice_get (by omega),hd]
  by_cases a1:j < i * sz
  · rw [if_neg (by omega),if_neg (by omega),List.append_assoc,List.getElem?_append_left (by omega),List.getElem?_append_left (by omega)]
  · by_cases a2:j < i * sz + sz
    · rw [if_neg (by omega),if_pos (by omega),List.append_assoc,List.getElem?_append_right (by omega),List.getElem?_append_left (by omega),ht]
    · by_cases a3:j < n * sz + sz
      · rw [if_pos (by omega),List.append_assoc,List.getElem?_append_right (by omega),List.getElem?_append_right (by omega),ht,hy]
        congr 1; omega
      · rw [if_neg (by omega),if_neg (by omega),List.getElem?_eq_none (by omega),List.getElem?_eq_none (by simp only [List.length_append,ht,hd,hy]; omega)]
theorem ins_shift {cs cy junk:List Value} {i n sz:Nat} (hc:cs.length = n * sz) (hy:cy.length = sz) (hz:junk.length = (n + 1 - n) * sz) (hi:i < n) :
    splice (splice (cs ++ junk) ((i + 1) * sz) (cs.drop (i * sz))) (i * sz) cy = cs.take (i * sz) ++ cy ++ cs.drop (i * sz):=by
  have h1:i * sz ≤ cs.length:=by rw [hc]; exact Nat.mul_le_mul_right _ (by omega)
  have h1':(i + 1) * sz ≤ n * sz:=Nat.mul_le_mul_right _ hi
  have h2:(i + 1) * sz = i * sz + sz:=by rw [Nat.add_mul,Nat.one_mul]
  rw [show n + 1 - n = 1 by omega,Nat.one_mul] at hz
  have ht:(cs.take (i * sz)).length = i * sz:=by rw [List.length_take]; omega
  have hd:(cs.drop (i * sz)).length = n * sz - i * sz:=by rw [List.length_drop,hc]
  have hl1:(cs ++ junk).length = n * sz + sz:=by rw [List.length_append,hc,hz]
  have hl2:(splice (cs ++ junk) ((i + 1) * sz) (cs.drop (i * sz))).length = n * sz + sz:=by rw [splice_length (by rw [hl1,hd]; omega),hl1]
  apply List.ext_getElem?
  intro j
  rw [splice_get (by rw [hl2]; omega),splice_get (by rw [hl1,hd]; omega),hd]
  by_cases a1:j < i * sz
  · rw [if_neg (by omega),if_neg (by omega),List.append_assoc,List.getElem?_append_left (by omega),List.getElem?_append_left (by omega),List.getElem?_take,if_pos a1]
  · by_cases a2:j < i * sz + sz
    · rw [if_pos (by omega),List.append_assoc,List.getElem?_append_right (by omega),List.getElem?_append_left (by omega),ht]
    · rw [if_neg (by omega)]
      by_cases a3:j < n * sz + sz
      · rw [if_pos (by omega),List.append_assoc,List.getElem?_append_right (by omega),List.getElem?_append_right (by omega),ht,hy]
        congr 1; omega
      · rw [if_neg (by omega),List.getElem?_eq_none (by omega),List.getElem?_eq_none (by simp only [List.length_append,ht,hd,hy]; omega)]
theorem rows_insert {α:Type} {d:Kn α} {H:Hp} {xs:List α} {y:α} {cs cy:List Value} {i:Nat} (h:d.rows H xs cs) (hy:d.rep H y cy) (hi:i ≤ xs.length):d.rows H (xs.take i ++ [y] ++ xs.drop i) (cs.take (i * d.sz) ++ cy ++ cs.drop (i * d.sz)) :=
  Kn.rows_append (Kn.rows_append (Kn.rows_take h i hi) (Kn.rows_one hy)) (Kn.rows_drop h i hi)
end Go.FM
namespace Go.FM
theorem take_self {α:Type} (l:List α) (k:Nat):(l.drop 0).take (l.take k).length = l.take k:=by
  rw [List.drop_zero,List.length_take]
  rcases Nat.le_total k l.length with h | h
  · rw [Nat.min_eq_left h]
  · rw [Nat.min_eq_right h,List.take_length,List.take_of_length_le h]
theorem drop_self {α:Type} (l:List α) (k:Nat):(l.drop k).take (l.drop k).length = l.drop k:=List.take_length
theorem drop_app {α:Type} (l m:List α) (k:Nat) (h:k ≤ l.length):((l ++ m).drop k).take (l.drop k).length = l.drop k:=by
  rw [List.drop_append_of_le_length h,List.take_append_of_le_length (Nat.le_refl _),List.take_length]
end Go.FM
namespace Go.FM
theorem splice_take {cs vs:List Value} {o:Nat} (h:o ≤ cs.length):(splice cs o vs).take o = cs.take o:=by
  unfold splice
  rw [List.append_assoc,List.take_append_of_le_length (by rw [List.length_take]; omega),List.take_take,Nat.min_self]
end Go.FM

set_option linter.unusedVariables false
set_option linter.unusedSimpArgs false
namespace Go.FM
open Go
structure Pk where
  From:Int
  To:Int
  v:Value
  bs:List Nat
def kPk:Kd Pk where
  sz:=3
  pos:=by decide
  rep _ p cs:=cs = [.int .i64 p.From,.int .i64 p.To,p.v]∧IB p.From∧IB p.To∧RowOk 1 p.v p.bs.length (p.bs.map encB)∧Small p.bs∧p.bs.length ≤ 140737488351232
  len h:=by rw [h.1]; rfl
  one h:=by
    obtain ⟨rfl,_,_,hok,_⟩:=h
    obtain ⟨A,c,hv,_⟩:=hok.slice
    simp [Value.oneCell',hv]
  mono _ h:=h
  bts:=40
  bts0:=by decide
structure NetS where
  n:Int
  hr:List Nat
  ps:List Pk
  bi:List Int
  lost:Int
structure NetOk (H:Hp) (s:NetS) (vb:Value) (cb:List Value) (vt:Value) (ct:List Value):Prop where
  n1:1 ≤ s.n
  n16:s.n ≤ 16
  hl:s.hr.length = 16
  hb:∀ x ∈ s.hr,x < 65536
  okb:RowOk 3 vb s.ps.length cb
  hkb:kPk.toKn.rows H s.ps cb
  okt:RowOk 1 vt s.bi.length ct
  hkt:kI.toKn.rows H s.bi ct
  len:s.bi.length = s.ps.length
  max:s.ps.length ≤ 4096
  l0:0 ≤ s.lost
theorem NetOk.mono {H H':Hp} {s:NetS} {vb:Value} {cb:List Value} {vt:Value} {ct:List Value} (h:NetOk H s vb cb vt ct) (hl:H.le H'):NetOk H' s vb cb vt ct :=
  ⟨h.n1,h.n16,h.hl,h.hb,h.okb,Kn.rows_mono h.hkb hl,h.okt,Kn.rows_mono h.hkt hl,h.len,h.max,h.l0⟩
section
variable {n lost:Int} {vb vt:Value} {hr:List Nat} {i x:Nat}
end
section
variable {TN TP TI TB g g':Nat} {s s':NetS} {vb vt vb' vt':Value} {cb ct cb' ct':List Value} {L M:List Res} {H:Hp} {w:World}
theorem perm_pickG {α:Type}:∀ (L:List α) (i:Nat) (h:i < L.length),L.Perm (L[i]::L.eraseIdx i)
  | _::_,0,_ => by simp
  | x::L,i + 1,h => by
    simp only [List.getElem_cons_succ,List.eraseIdx_cons_succ]
    exact ((perm_pickG L i (by simpa using h)).cons x).trans (List.Perm.swap ..)
end
end Go.FM
namespace Go.FM
end Go.FM
namespace Go.FM
end Go.FM
namespace Go.FM
open Go
section
variable {TN TP TI TB g:Nat} {s:NetS} {vb vt:Value} {cb ct:List Value} {L:List Res} {H:Hp} {w:World}
end
end Go.FM

set_option linter.unusedVariables false
set_option linter.unusedSimpArgs false
namespace Go.FM
open Go
structure MemB (H:Hp) (N S:Nat) (C:GView) (Pm:GViewID) (Hi:Nat) (A:Option Addr) (jn jc:Nat) (jl:List GState) (os:List (GViewID × GViewID)):Prop where
  n1:1 ≤ N
  n16:N ≤ 16
  self:S < N
  cur:VOk C.ID
  set:C.Set < 65536
  prom:VOk Pm
  high:Hi < 18446744073709551616
  joined:Sl kState H A jn jc jl
  len:os.length = 16
  oth:∀ x ∈ os,VOk x.1∧VOk x.2
section
variable {H H':Hp} {n self high jn jc:Nat} {cur:GView} {prom:GViewID} {A:Option Addr} {jl:List GState} {os:List (GViewID × GViewID)} {m:MB} {sv:Value} {sc:List Value} {p:GProp} {w:World} {L:List Res}
theorem MemB.mono (h:MemB H n self cur prom high A jn jc jl os) (hl:H.le H'):MemB H' n self cur prom high A jn jc jl os :=
  ⟨h.n1,h.n16,h.self,h.cur,h.set,h.prom,h.high,h.joined.mono hl,h.len,h.oth⟩
theorem PropOk.mono (h:PropOk H p sv sc) (hl:H.le H'):PropOk H' p sv sc:=⟨h.id,h.set,h.who,h.ok,Kn.rows_mono h.hk hl⟩
theorem MemOk.b (h:MemOk H m A jn jc sv sc):MemB H m.n m.self m.cur m.prom m.high A jn jc m.joined m.others :=
  ⟨h.n1,h.n16,h.self,h.cur,h.set,h.prom,h.high,h.joined,h.len,h.oth⟩
theorem MemB.okN (h:MemB H n self cur prom high A jn jc jl os):MemOk H (MB.mk n self cur prom high none jl os) A jn jc sv sc :=
  ⟨h.n1,h.n16,h.self,h.cur,h.set,h.prom,h.high,h.joined,h.len,h.oth,fun p hp => (by cases hp)⟩
theorem MemB.okS (h:MemB H n self cur prom high A jn jc jl os) (hp:PropOk H p sv sc):MemOk H (MB.mk n self cur prom high (some p) jl os) A jn jc sv sc :=
  ⟨h.n1,h.n16,h.self,h.cur,h.set,h.prom,h.high,h.joined,h.len,h.oth,fun q hq => (by cases hq; exact hp)⟩
theorem MemOk.mono (h:MemOk H m A jn jc sv sc) (hl:H.le H'):MemOk H' m A jn jc sv sc :=
  ⟨h.n1,h.n16,h.self,h.cur,h.set,h.prom,h.high,h.joined.mono hl,h.len,h.oth,fun q hq => (h.prop q hq).mono hl⟩
def memR (TM TP TS:Nat) (g gp:Nat) (A:Option Addr) (jn jc:Nat) (sv:Value) (sc:List Value) (m:MB):List Res:=match m.prop with
  | none => [obj g TM (m.cells (.pointer none) (.slice A jn jc))]
  | some p => [obj g TM (m.cells (.pointer (some ⟨gp,0,none⟩)) (.slice A jn jc)),obj gp TP (propCells p sv),row TS 4 sv p.states.length sc]
variable {TM TP TS g gp:Nat}
theorem St.upL {A L:List Res} (rs:List Res) (h:St H w (rs ++ (A ++ L))):St H w (A ++ (rs ++ L)):=by
  refine h.perm ?_
  rw [← List.append_assoc,← List.append_assoc]
  exact List.Perm.append_right L List.perm_append_comm
theorem St.dropL {A L:List Res} (rs:List Res) (h:St H w (rs ++ (A ++ L))):St H w (rs ++ L):=St.tail (L':=A) (h.upL rs)
theorem St.foldN (rs:List Res) (h:St H w (obj g TM ((MB.mk n self cur prom high none jl os).cells (.pointer none) (.slice A jn jc))::(rs ++ L))):St H w (rs ++ (memR TM TP TS g gp A jn jc sv sc (MB.mk n self cur prom high none jl os) ++ L)):=St.upL [_] h
theorem St.foldS (rs:List Res) (h:St H w (obj g TM ((MB.mk n self cur prom high (some p) jl os).cells (.pointer (some ⟨gp,0,none⟩)) (.slice A jn jc))::obj gp TP (propCells p sv)::row TS 4 sv p.states.length sc::(rs ++ L))):St H w (rs ++ (memR TM TP TS g gp A jn jc sv sc (MB.mk n self cur prom high (some p) jl os) ++ L)):=St.upL [_,_,_] h
def InstAt (H:Hp) (x:Option GInstall) (v:Value):Prop:=match x with
  | none => v = .pointer none
  | some y => ∃ g cs,v = .pointer (some ⟨g,0,none⟩)∧Rd H (some ⟨g,0,none⟩) cs∧kInstall.rep H y cs
theorem InstAt.cases {x:Option GInstall} {v:Value} (h:InstAt H x v):(x = none∧v = .pointer none) ∨ ∃ y g cs,x = some y∧v = .pointer (some ⟨g,0,none⟩)∧Rd H (some ⟨g,0,none⟩) cs∧kInstall.rep H y cs:=by
  cases x with
  | none => exact .inl ⟨rfl,h⟩
  | some y => obtain ⟨g,cs,h1,h2,h3⟩:=h; exact .inr ⟨y,g,cs,rfl,h1,h2,h3⟩
theorem InstAt.mono {x:Option GInstall} {v:Value} (h:InstAt H x v) (hl:H.le H'):InstAt H' x v:=by
  cases x with
  | none => exact h
  | some y => obtain ⟨g,cs,h1,h2,h3⟩:=h; exact ⟨g,cs,h1,h2.mono hl,kInstall.mono hl h3⟩
theorem InstAt.none':InstAt H none (.pointer none):=rfl
theorem InstAt.none_of {x:Option GInstall} (h:x = none):InstAt H x (.pointer none):=by subst h; rfl
theorem InstAt.some_of {x:Option GInstall} {y:GInstall} {b:Nat} {cs:List Value} (h:x = some y) (h1:Rd H (some ⟨b,0,none⟩) cs) (h2:kInstall.rep H y cs):InstAt H x (.pointer (some ⟨b,0,none⟩)):=by
  subst h; exact ⟨b,cs,rfl,h1,h2⟩
theorem calls_back {P:Program} {f:FuncId} {args:Array Value} {v:Value} {A B:World → Prop} (h:Calls P f args w (fun e w' => e = .returned v∧A w')) (k:∀ w',A w' → B w'):Calls P f args w (fun e w' => e = .returned v∧B w') :=
  Calls.mono h (fun e w' h => ⟨h.1,k w' h.2⟩)
end
theorem oth_set_ok {os:List (GViewID × GViewID)} {i:Nat} {x:GViewID × GViewID} (h:∀ y ∈ os,VOk y.1∧VOk y.2) (hx:VOk x.1∧VOk x.2):∀ y ∈ os.set i x,VOk y.1∧VOk y.2:=fun y hy => by
  rcases List.mem_or_eq_of_mem_set hy with h1 | h1
  · exact h y h1
  · rw [h1]; exact hx
theorem mem_len10 {v0 v1 v2 v3 v4 v5 v6 v7 v8 v9:Value} {os:List (GViewID × GViewID)} (h:os.length = 16):(v0::v1::v2::v3::v4::v5::v6::v7::v8::v9::oCells os).length = 250:=by
  show (oCells os).length + 10 = 250
  rw [oCells_len,h]
abbrev clProp (x:GProp) (sv:Value):List Value:=[.int .u64 ((x.v.ID.N:Nat):Int),.int .i64 x.v.ID.P,.int .u16 ((x.v.Set:Nat):Int),.int .u16 ((x.who:Nat):Int),sv,.bool x.done]
end Go.FM
namespace Go.FM
open Go
section
variable {α β:Type} {l:List α} {i:Nat} {z:α} {f:α → List β} {out ys:List β}
theorem flat_next (h:l[i]? = some z) (ho:out = (l.take i).flatMap f) (hy:f z = ys):out ++ ys = (l.take (i + 1)).flatMap f:=by
  rw [take_succ' h,List.flatMap_append,← ho,List.flatMap_cons,hy]; simp
theorem flat_next0 (h:l[i]? = some z) (ho:out = (l.take i).flatMap f) (hy:f z = []):out = (l.take (i + 1)).flatMap f:=by
  have:=flat_next h ho hy; rwa [List.append_nil] at this
end
section
variable {m:MB} {p:GProp} {z:Nat}
theorem ag_self (h:decide (((z:Nat):Int) = ((m.self:Nat):Int)) = true):m.again1 p z = []:=by
  unfold MB.again1; rw [if_pos (by have:=of_decide_eq_true h; omega)]
theorem ag_commit (h:decide (((z:Nat):Int) = ((m.self:Nat):Int)) = false) (hd:(p.done && (!decide ((m.others.getD z (z0,z0)).1 = p.v.ID))) = true):m.again1 p z = [m.commit p z]:=by
  unfold MB.again1
  have h2:p.done = true∧¬ (m.other z).1 = p.v.ID:=by rw [Bool.and_eq_true,Bool.not_eq_true',decide_eq_false_iff_not] at hd; exact hd
  rw [if_neg (by have:=of_decide_eq_false h; omega),if_pos h2]
theorem ag_propose (h:decide (((z:Nat):Int) = ((m.self:Nat):Int)) = false) (hd:((!p.done) && (!has p.who ((z:Nat):Int))) = true):m.again1 p z = [⟨(z:Int),frPropose m.self p.v⟩]:=by
  have h2:p.done = false∧has p.who ((z:Nat):Int) = false:=by simpa [Bool.and_eq_true] using hd
  unfold MB.again1
  rw [if_neg (by have:=of_decide_eq_false h; omega),if_neg (by rw [h2.1]; simp),if_pos h2]
theorem ag_none (h:decide (((z:Nat):Int) = ((m.self:Nat):Int)) = false) (hd:(p.done && (!decide ((m.others.getD z (z0,z0)).1 = p.v.ID))) = false) (hw:((!p.done) && (!has p.who ((z:Nat):Int))) = false):m.again1 p z = []:=by
  unfold MB.again1
  rw [if_neg (by have:=of_decide_eq_false h; omega),if_neg,if_neg]
  · rintro ⟨h1,h2⟩; rw [h1,h2] at hw; cases hw
  · rintro ⟨h1,h2⟩
    have h3:decide ((m.others.getD z (z0,z0)).1 = p.v.ID) = false:=decide_eq_false h2
    rw [h1,h3] at hd; cases hd
theorem again_ne {n self high:Nat} {cur:GView} {prom:GViewID} {jl:List GState} {os:List (GViewID × GViewID)} (h:decide (prom = p.v.ID) = false):MB.again (MB.mk n self cur prom high (some p) jl os) = []:=by
  unfold MB.again
  exact if_pos (of_decide_eq_false h)
theorem again_yes {n self high:Nat} {cur:GView} {prom:GViewID} {jl:List GState} {os:List (GViewID × GViewID)} {out:List GOut} (h:decide (prom = p.v.ID) = true) (ho:out = (lst p.v.Set).flatMap (MB.again1 (MB.mk n self cur prom high (some p) jl os) p)):MB.again (MB.mk n self cur prom high (some p) jl os) = out:=by
  unfold MB.again
  rw [ho]
  exact if_neg (fun k => k (of_decide_eq_true h))
end
end Go.FM
namespace Go.FM
open Go
section
variable {n self high:Nat} {cur:GView} {prom:GViewID} {prop:Option GProp} {jl:List GState} {os:List (GViewID × GViewID)} {f:GFrame} {st:GState} {p:GProp}
def propBad (n self:Nat) (f:GFrame):Bool:=(((decide ((f.ID.P:Int) ≠ f.From)) || (!(has f.Set ((self:Nat):Int)))) || (!(has f.Set f.From))) || (decide (((((f.Set / 2 ^ n):Nat):Int):Int) ≠ 0))
theorem propBad_iff:propBad n self f = true ↔ (f.ID.P ≠ f.From ∨ has f.Set self = false ∨ has f.Set f.From = false ∨ f.Set / 2 ^ n ≠ 0):=by
  unfold propBad
  simp only [Bool.or_eq_true,Bool.not_eq_true',decide_eq_true_iff,or_assoc]
  rw [show ((((f.Set / 2 ^ n:Nat):Int) ≠ 0) ↔ f.Set / 2 ^ n ≠ 0) from by omega]
theorem prop_bad (h:((((decide ((f.ID.P:Int) ≠ f.From)) || (!(has f.Set ((self:Nat):Int)))) || (!(has f.Set f.From))) || (decide (((((f.Set / 2 ^ n):Nat):Int):Int) ≠ 0))) = true):MB.propose (MB.mk n self cur prom high prop jl os) f st = (MB.mk n self cur prom high prop jl os,[],none,3):=by
  unfold MB.propose; exact if_pos (propBad_iff.1 h)
theorem propNot (h:((((decide ((f.ID.P:Int) ≠ f.From)) || (!(has f.Set ((self:Nat):Int)))) || (!(has f.Set f.From))) || (decide (((((f.Set / 2 ^ n):Nat):Int):Int) ≠ 0))) = false):¬ (f.ID.P ≠ f.From ∨ has f.Set self = false ∨ has f.Set f.From = false ∨ f.Set / 2 ^ n ≠ 0):=fun k => by
  have h1:=propBad_iff.2 k
  unfold propBad at h1; rw [h] at h1; cases h1
theorem prop_above (h:((((decide ((f.ID.P:Int) ≠ f.From)) || (!(has f.Set ((self:Nat):Int)))) || (!(has f.Set f.From))) || (decide (((((f.Set / 2 ^ n):Nat):Int):Int) ≠ 0))) = false) (ha:decide (0 < cmpV f.ID.N f.ID.P prom.N prom.P) = true) :
    MB.propose (MB.mk n self cur prom high prop jl os) f st = (MB.mk n self cur f.ID (max high f.ID.N) prop jl os,[⟨f.From,frAccept self f.ID st⟩],none,0):=by
  unfold MB.propose
  exact (if_neg (propNot h)).trans (if_pos ha)
theorem prop_old (h:((((decide ((f.ID.P:Int) ≠ f.From)) || (!(has f.Set ((self:Nat):Int)))) || (!(has f.Set f.From))) || (decide (((((f.Set / 2 ^ n):Nat):Int):Int) ≠ 0))) = false) (ha:decide (0 < cmpV f.ID.N f.ID.P prom.N prom.P) = false) (ho:((!(decide (f.ID = prom))) || (decide (cur.ID = f.ID))) = true) :
    MB.propose (MB.mk n self cur prom high prop jl os) f st = (MB.mk n self cur prom (max high f.ID.N) prop jl os,[⟨f.From,frRefuse self f.ID prom⟩],none,9):=by
  unfold MB.propose
  refine (if_neg (propNot h)).trans ((if_neg (fun k => ?_)).trans (if_pos ?_))
  · have k:decide (0 < cmpV f.ID.N f.ID.P prom.N prom.P) = true:=k
    rw [ha] at k; cases k
  · rw [Bool.or_eq_true,Bool.not_eq_true',decide_eq_false_iff_not,decide_eq_true_iff] at ho; exact ho
theorem prop_same (h:((((decide ((f.ID.P:Int) ≠ f.From)) || (!(has f.Set ((self:Nat):Int)))) || (!(has f.Set f.From))) || (decide (((((f.Set / 2 ^ n):Nat):Int):Int) ≠ 0))) = false) (ha:decide (0 < cmpV f.ID.N f.ID.P prom.N prom.P) = false) (ho:((!(decide (f.ID = prom))) || (decide (cur.ID = f.ID))) = false) :
    MB.propose (MB.mk n self cur prom high prop jl os) f st = (MB.mk n self cur prom (max high f.ID.N) prop jl os,[⟨f.From,frAccept self f.ID st⟩],none,0):=by
  unfold MB.propose
  refine (if_neg (propNot h)).trans ((if_neg (fun k => ?_)).trans (if_neg (fun k => ?_)))
  · have k:decide (0 < cmpV f.ID.N f.ID.P prom.N prom.P) = true:=k
    rw [ha] at k; cases k
  · have k:((!(decide (f.ID = prom))) || (decide (cur.ID = f.ID))) = true:=by rw [Bool.or_eq_true,Bool.not_eq_true',decide_eq_false_iff_not,decide_eq_true_iff]; exact k
    rw [ho] at k; cases k
end
end Go.FM
namespace Go.FM
open Go
section
variable {n self high k:Nat} {cur:GView} {prom:GViewID} {jl:List GState} {os:List (GViewID × GViewID)} {f:GFrame} {p pz:GProp} {e:GState} {m m3:MB} {out:List GOut} {y:GInstall}
def accBad (p:GProp) (prom:GViewID) (f:GFrame) (k:Nat):Bool:=(((((p.done || (!(decide (p.v.ID = f.ID)))) || (!(decide (prom = f.ID)))) || (!(has p.v.Set f.From))) || (has p.who f.From)) || (decide ((((k:Nat):Int):Int) ≠ 1)))
theorem accBad_is (hk:f.States.length = k) (hm:m.prom = prom):MB.acceptOk m p f = !accBad p prom f k:=by
  unfold MB.acceptOk accBad
  rw [hm,hk,show decide ((((k:Nat):Int):Int) ≠ 1) = !decide (k = 1) from by rw [← decide_not]; exact decide_eq_decide.2 (by omega)]
  cases p.done <;> cases decide (p.v.ID = f.ID) <;> cases decide (prom = f.ID) <;> cases has p.v.Set f.From <;> cases has p.who f.From <;> cases decide (k = 1) <;> rfl
theorem acc_no (hk:f.States.length = k) (h:(((((p.done || (!(decide (p.v.ID = f.ID)))) || (!(decide (prom = f.ID)))) || (!(has p.v.Set f.From))) || (has p.who f.From)) || (decide ((((k:Nat):Int):Int) ≠ 1))) = true):MB.accept (MB.mk n self cur prom high (some p) jl os) f = (MB.mk n self cur prom high (some p) jl os,[],none,9):=by
  have h1:MB.acceptOk (MB.mk n self cur prom high (some p) jl os) p f = false:=(accBad_is hk rfl).trans (by unfold accBad; rw [h]; rfl)
  unfold MB.accept
  exact if_neg (by rw [h1]; decide)
theorem acc_ok (hk:f.States.length = k) (hm:m.prom = prom) (h:(((((p.done || (!(decide (p.v.ID = f.ID)))) || (!(decide (prom = f.ID)))) || (!(has p.v.Set f.From))) || (has p.who f.From)) || (decide ((((k:Nat):Int):Int) ≠ 1))) = false):MB.acceptOk m p f = true :=
  (accBad_is hk hm).trans (by unfold accBad; rw [h]; rfl)
theorem one_of {α:Type} {l:List α} {e:α} (h:l[0]? = some e) (hl:l.length = 1):l = [e]:=by
  match l,hl with
  | [a],_ => injection h with h; rw [h]
theorem agree_some (h:(MB.agree m p).2 = some y):(MB.agree m p).1 = { m with prop:=some { p with done:=true,states:=[] },joined:=joinS p.states,cur:=p.v }∧p.who = p.v.Set∧y = ⟨p.v,joinS p.states⟩:=by
  unfold MB.agree at h ⊢
  by_cases hw:p.who ≠ p.v.Set
  · rw [if_pos hw] at h; cases h
  · rw [if_neg hw] at h ⊢
    exact ⟨rfl,Classical.not_not.1 hw,(Option.some.inj h).symm⟩
theorem agree_none (h:(MB.agree m p).2 = none):(MB.agree m p).1 = { m with prop:=some p }:=by
  unfold MB.agree at h ⊢
  by_cases hw:p.who ≠ p.v.Set
  · rw [if_pos hw]
  · rw [if_neg hw] at h; cases h
theorem acc_wait (hok:MB.acceptOk (MB.mk n self cur prom high (some p) jl os) p f = true) (hf:f.States = [e]) (hX:(MB.agree (MB.mk n self cur prom high (some ⟨p.v,wth p.who f.From,p.states ++ [e],p.done⟩) jl os) ⟨p.v,wth p.who f.From,p.states ++ [e],p.done⟩).2 = none)
    (hme:m3 = (MB.agree (MB.mk n self cur prom high (some ⟨p.v,wth p.who f.From,p.states ++ [e],p.done⟩) jl os) ⟨p.v,wth p.who f.From,p.states ++ [e],p.done⟩).1):MB.accept (MB.mk n self cur prom high (some p) jl os) f = (m3,[],none,0):=by
  have h1:=agree_none hX
  unfold MB.accept
  refine (if_pos hok).trans ?_
  rw [hme,h1,hf]
  unfold MB.agree at hX ⊢
  by_cases hw:wth p.who f.From ≠ p.v.Set
  · rw [if_pos hw]
  · rw [if_neg hw] at hX; cases hX
theorem acc_done (hok:MB.acceptOk (MB.mk n self cur prom high (some p) jl os) p f = true) (hf:f.States = [e]) (hX:(MB.agree (MB.mk n self cur prom high (some ⟨p.v,wth p.who f.From,p.states ++ [e],p.done⟩) jl os) ⟨p.v,wth p.who f.From,p.states ++ [e],p.done⟩).2 = some y)
    (hme:m3 = (MB.agree (MB.mk n self cur prom high (some ⟨p.v,wth p.who f.From,p.states ++ [e],p.done⟩) jl os) ⟨p.v,wth p.who f.From,p.states ++ [e],p.done⟩).1) (hv:pz.v = p.v) (ho:out = (lst (wto pz.v.Set ((self:Nat):Int))).map (MB.commit m3 pz)):MB.accept (MB.mk n self cur prom high (some p) jl os) f = (m3,out,some y,0):=by
  obtain ⟨h1,h2,h3⟩:=agree_some hX
  have h2:wth p.who f.From = p.v.Set:=h2
  have hc:∀ z,MB.commit m3 pz z = MB.commit m3 { p with done:=true } z:=fun z => by unfold MB.commit; rw [hv]
  unfold MB.accept
  refine (if_pos hok).trans ?_
  rw [ho,hv,show MB.commit m3 pz = MB.commit m3 { p with done:=true } from funext hc,hf,h3]
  unfold MB.agree
  rw [if_neg (by rw [h2]; simp)]
  rw [hme,h1]
theorem map_next {α β:Type} {l:List α} {i:Nat} {z:α} {g:α → β} {out:List β} (h:l[i]? = some z) (ho:out = (l.take i).map g):out ++ [g z] = (l.take (i + 1)).map g:=by
  rw [take_succ' h,List.map_append,← ho]; rfl
end
end Go.FM
namespace Go.FM
theorem app_floor1 {al:List GState} {x:GState} (h:∀ s ∈ al,0 ≤ s.Floor∧s.Floor ≤ 1073741824) (hx:0 ≤ x.Floor∧x.Floor ≤ 1073741824):∀ s ∈ al ++ [x],0 ≤ s.Floor∧s.Floor ≤ 1073741824:=fun s hs => by
  rcases List.mem_append.1 hs with h1 | h1
  · exact h s h1
  · rw [List.mem_singleton.1 h1]; exact hx
end Go.FM
namespace Go.FM
open Go
section
variable {m:MB} {e est:Nat} {sx:GState} {b:Bool}
theorem need_is:((((!(decide (m.cur.ID = m.prom))) || (decide (((m.cur.ID.N:Nat):Int) = 0))) || (decide (((e:Nat):Int) ≠ ((m.cur.Set:Nat):Int)))) || (m.ahead e m.cur.ID)) = m.need e:=by
  unfold MB.need
  rw [show (!decide (m.cur.ID = m.prom)) = decide (m.cur.ID ≠ m.prom) from by rw [decide_not],show decide (((m.cur.ID.N:Nat):Int) = 0) = decide (m.cur.ID.N = 0) from decide_eq_decide.2 (by omega),show decide (((e:Nat):Int) ≠ ((m.cur.Set:Nat):Int)) = decide (e ≠ m.cur.Set) from decide_eq_decide.2 (by omega)]
theorem under_is {p:GProp} (hp:m.prop = some p):((((!p.done) && (decide (m.prom = p.v.ID))) && (decide (((p.v.Set:Nat):Int) = ((e:Nat):Int)))) && (!(m.ahead e p.v.ID))) = m.under e:=by
  unfold MB.under
  rw [hp]
  simp only []
  rw [show decide (((p.v.Set:Nat):Int) = ((e:Nat):Int)) = decide (p.v.Set = e) from decide_eq_decide.2 (by omega)]
theorem tick_stay (he:m.est est = e) (h:((decide ((least e:Int) = ((m.self:Nat):Int)) && (m.need e)) && (!(m.under e))) = false):m.tick est sx = (m,m.again,none):=by
  subst he
  refine tick_no fun k => ?_
  rw [decide_eq_true k.1,k.2.1,k.2.2] at h
  cases h
theorem tick_go (he:m.est est = e) (h:((decide ((least e:Int) = ((m.self:Nat):Int)) && (m.need e)) && (!(m.under e))) = true):m.tick est sx = (match m.ticks e sx with | (m',some i) => (m',[],some i) | (m',none) => (m',m'.again,none)):=by
  subst he
  rw [Bool.and_eq_true,Bool.and_eq_true,Bool.not_eq_true',decide_eq_true_iff] at h
  unfold MB.tick
  exact if_pos ⟨h.1.1,h.1.2,h.2⟩
theorem tick_done {m2 m3:MB} {y:GInstall} {p:GProp} (he:m.est est = e) (h:((decide ((least e:Int) = ((m.self:Nat):Int)) && (m.need e)) && (!(m.under e))) = true) (hm:m3 = (MB.agree m2 p).1) (hX:(MB.agree m2 p).2 = some y) (h2:m.ticks e sx = MB.agree m2 p):m.tick est sx = (m3,[],some y):=by
  rw [tick_go he h,h2]
  generalize hz:MB.agree m2 p = z at *
  obtain ⟨z1,z2⟩:=z
  simp only at hX hm
  subst hX; subst hm; rfl
theorem tick_wait {m2 m3:MB} {p:GProp} (he:m.est est = e) (h:((decide ((least e:Int) = ((m.self:Nat):Int)) && (m.need e)) && (!(m.under e))) = true) (hm:m3 = (MB.agree m2 p).1) (hX:(MB.agree m2 p).2 = none) (h2:m.ticks e sx = MB.agree m2 p):m.tick est sx = (m3,m3.again,none):=by
  rw [tick_go he h,h2]
  generalize hz:MB.agree m2 p = z at *
  obtain ⟨z1,z2⟩:=z
  simp only at hX hm
  subst hX; subst hm; rfl
end
end Go.FM
namespace Go.FM
open Go
section
variable {n self high:Nat} {cur:GView} {prom:GViewID} {prop:Option GProp} {jl:List GState} {os:List (GViewID × GViewID)} {f:GFrame} {sx:GState} {p:GProp} {m:MB}
abbrev innBad (n self:Nat) (f:GFrame):Bool:=((decide ((f.From:Int) < 0)) || (decide ((((n:Nat):Int):Int) ≤ f.From))) || (decide ((f.From:Int) = ((self:Nat):Int)))
theorem innBad_iff:innBad n self f = true ↔ (f.From < 0 ∨ (n:Int) ≤ f.From ∨ f.From = (self:Int)):=by
  unfold innBad
  simp only [Bool.or_eq_true,decide_eq_true_iff,or_assoc]
theorem innNot (h:innBad n self f = false):¬ (f.From < 0 ∨ (n:Int) ≤ f.From ∨ f.From = (self:Int)):=fun k => by
  have:=innBad_iff.2 k; rw [h] at this; cases this
theorem kd_yes {k c:Nat} (h:decide ((((k:Nat):Int):Int) = (c:Int)) = true):k = c:=by have:=of_decide_eq_true h; omega
theorem kd_no {k c:Nat} (h:decide ((((k:Nat):Int):Int) = (c:Int)) = false):¬ k = c:=by have:=of_decide_eq_false h; omega
theorem inn_arg (h:innBad n self f = true):MB.inn (MB.mk n self cur prom high prop jl os) f sx = (MB.mk n self cur prom high prop jl os,[],none,1):=by
  unfold MB.inn; exact if_pos (innBad_iff.1 h)
theorem inn_beat (h:innBad n self f = false) (h1:decide ((((f.Kind:Nat):Int):Int) = 1) = true):MB.inn (MB.mk n self cur prom high prop jl os) f sx = (MB.mk n self cur prom (max (max high f.Cur.N) f.Prom.N) prop jl (os.set f.From.toNat (f.Cur,f.Prom)),[],none,0):=by
  unfold MB.inn; exact (if_neg (innNot h)).trans (if_pos (kd_yes (c:=1) h1))
theorem inn_prop (h:innBad n self f = false) (h1:decide ((((f.Kind:Nat):Int):Int) = 1) = false) (h2:decide ((((f.Kind:Nat):Int):Int) = 2) = true):MB.inn (MB.mk n self cur prom high prop jl os) f sx = MB.propose (MB.mk n self cur prom high prop jl os) f sx:=by
  unfold MB.inn; exact (if_neg (innNot h)).trans ((if_neg (kd_no (c:=1) h1)).trans (if_pos (kd_yes (c:=2) h2)))
theorem inn_acc (h:innBad n self f = false) (h1:decide ((((f.Kind:Nat):Int):Int) = 1) = false) (h2:decide ((((f.Kind:Nat):Int):Int) = 2) = false) (h3:decide ((((f.Kind:Nat):Int):Int) = 3) = true):MB.inn (MB.mk n self cur prom high prop jl os) f sx = MB.accept (MB.mk n self cur prom high prop jl os) f:=by
  unfold MB.inn; exact (if_neg (innNot h)).trans ((if_neg (kd_no (c:=1) h1)).trans ((if_neg (kd_no (c:=2) h2)).trans (if_pos (kd_yes (c:=3) h3))))
theorem inn_ref_N (h:innBad n self f = false) (h1:decide ((((f.Kind:Nat):Int):Int) = 1) = false) (h2:decide ((((f.Kind:Nat):Int):Int) = 2) = false) (h3:decide ((((f.Kind:Nat):Int):Int) = 3) = false) (h4:decide ((((f.Kind:Nat):Int):Int) = 4) = true):MB.inn (MB.mk n self cur prom high none jl os) f sx = (MB.mk n self cur prom (max high f.Prom.N) none jl os,[],none,0):=by
  unfold MB.inn; exact (if_neg (innNot h)).trans ((if_neg (kd_no (c:=1) h1)).trans ((if_neg (kd_no (c:=2) h2)).trans ((if_neg (kd_no (c:=3) h3)).trans (if_pos (kd_yes (c:=4) h4)))))
theorem inn_ref_yes (h:innBad n self f = false) (h1:decide ((((f.Kind:Nat):Int):Int) = 1) = false) (h2:decide ((((f.Kind:Nat):Int):Int) = 2) = false) (h3:decide ((((f.Kind:Nat):Int):Int) = 3) = false) (h4:decide ((((f.Kind:Nat):Int):Int) = 4) = true)
    (hr:(((decide (p.v.ID = f.ID)) && (!p.done)) && (decide (0 < cmpV f.Prom.N f.Prom.P f.ID.N f.ID.P))) = true):MB.inn (MB.mk n self cur prom high (some p) jl os) f sx = (MB.mk n self cur prom (max high f.Prom.N) none jl os,[],none,0):=by
  have hr':p.v.ID = f.ID∧p.done = false∧aboveV f.Prom f.ID = true:=by
    rw [Bool.and_eq_true,Bool.and_eq_true,Bool.not_eq_true',decide_eq_true_iff] at hr; exact ⟨hr.1.1,hr.1.2,hr.2⟩
  unfold MB.inn; exact (if_neg (innNot h)).trans ((if_neg (kd_no (c:=1) h1)).trans ((if_neg (kd_no (c:=2) h2)).trans ((if_neg (kd_no (c:=3) h3)).trans ((if_pos (kd_yes (c:=4) h4)).trans (if_pos hr')))))
theorem inn_ref_no (h:innBad n self f = false) (h1:decide ((((f.Kind:Nat):Int):Int) = 1) = false) (h2:decide ((((f.Kind:Nat):Int):Int) = 2) = false) (h3:decide ((((f.Kind:Nat):Int):Int) = 3) = false) (h4:decide ((((f.Kind:Nat):Int):Int) = 4) = true)
    (hr:(((decide (p.v.ID = f.ID)) && (!p.done)) && (decide (0 < cmpV f.Prom.N f.Prom.P f.ID.N f.ID.P))) = false):MB.inn (MB.mk n self cur prom high (some p) jl os) f sx = (MB.mk n self cur prom (max high f.Prom.N) (some p) jl os,[],none,0):=by
  have hr':¬ (p.v.ID = f.ID∧p.done = false∧aboveV f.Prom f.ID = true):=fun k => by
    have k2:decide (0 < cmpV f.Prom.N f.Prom.P f.ID.N f.ID.P) = true:=k.2.2
    rw [decide_eq_true k.1,k.2.1,k2] at hr; cases hr
  unfold MB.inn; exact (if_neg (innNot h)).trans ((if_neg (kd_no (c:=1) h1)).trans ((if_neg (kd_no (c:=2) h2)).trans ((if_neg (kd_no (c:=3) h3)).trans ((if_pos (kd_yes (c:=4) h4)).trans (if_neg hr')))))
abbrev comBad (self:Nat) (cur:GView) (prom:GViewID) (f:GFrame):Bool:=(((!(decide (f.ID = prom))) || (decide (cur.ID = f.ID))) || (!(has f.Set ((self:Nat):Int)))) || (decide ((f.ID.P:Int) ≠ f.From))
theorem comBad_iff:comBad self cur prom f = true ↔ (f.ID ≠ prom ∨ cur.ID = f.ID ∨ has f.Set self = false ∨ f.ID.P ≠ f.From):=by
  unfold comBad
  simp only [Bool.or_eq_true,Bool.not_eq_true',decide_eq_true_iff,decide_eq_false_iff_not,or_assoc,ne_eq]
theorem inn_com_bad (h:innBad n self f = false) (h1:decide ((((f.Kind:Nat):Int):Int) = 1) = false) (h2:decide ((((f.Kind:Nat):Int):Int) = 2) = false) (h3:decide ((((f.Kind:Nat):Int):Int) = 3) = false) (h4:decide ((((f.Kind:Nat):Int):Int) = 4) = false) (h5:decide ((((f.Kind:Nat):Int):Int) = 5) = true)
    (hc:comBad self cur prom f = true):MB.inn (MB.mk n self cur prom high prop jl os) f sx = (MB.mk n self cur prom high prop jl os,[],none,9):=by
  unfold MB.inn; exact (if_neg (innNot h)).trans ((if_neg (kd_no (c:=1) h1)).trans ((if_neg (kd_no (c:=2) h2)).trans ((if_neg (kd_no (c:=3) h3)).trans ((if_neg (kd_no (c:=4) h4)).trans ((if_pos (kd_yes (c:=5) h5)).trans (if_pos (comBad_iff.1 hc)))))))
theorem inn_com_ok (h:innBad n self f = false) (h1:decide ((((f.Kind:Nat):Int):Int) = 1) = false) (h2:decide ((((f.Kind:Nat):Int):Int) = 2) = false) (h3:decide ((((f.Kind:Nat):Int):Int) = 3) = false) (h4:decide ((((f.Kind:Nat):Int):Int) = 4) = false) (h5:decide ((((f.Kind:Nat):Int):Int) = 5) = true)
    (hc:comBad self cur prom f = false):MB.inn (MB.mk n self cur prom high prop jl os) f sx = (MB.mk n self ⟨f.ID,f.Set⟩ prom high prop jl os,[],some ⟨⟨f.ID,f.Set⟩,f.States⟩,0):=by
  have hc':¬ (f.ID ≠ prom ∨ cur.ID = f.ID ∨ has f.Set self = false ∨ f.ID.P ≠ f.From):=fun k => by
    have:=comBad_iff.2 k; rw [hc] at this; cases this
  unfold MB.inn; exact (if_neg (innNot h)).trans ((if_neg (kd_no (c:=1) h1)).trans ((if_neg (kd_no (c:=2) h2)).trans ((if_neg (kd_no (c:=3) h3)).trans ((if_neg (kd_no (c:=4) h4)).trans ((if_pos (kd_yes (c:=5) h5)).trans (if_neg hc'))))))
theorem inn_form (h:innBad n self f = false) (h1:decide ((((f.Kind:Nat):Int):Int) = 1) = false) (h2:decide ((((f.Kind:Nat):Int):Int) = 2) = false) (h3:decide ((((f.Kind:Nat):Int):Int) = 3) = false) (h4:decide ((((f.Kind:Nat):Int):Int) = 4) = false) (h5:decide ((((f.Kind:Nat):Int):Int) = 5) = false):MB.inn (MB.mk n self cur prom high prop jl os) f sx = (MB.mk n self cur prom high prop jl os,[],none,3):=by
  unfold MB.inn; exact (if_neg (innNot h)).trans ((if_neg (kd_no (c:=1) h1)).trans ((if_neg (kd_no (c:=2) h2)).trans ((if_neg (kd_no (c:=3) h3)).trans ((if_neg (kd_no (c:=4) h4)).trans (if_neg (kd_no (c:=5) h5))))))
theorem propose_none:(MB.propose m f sx).2.2.1 = none:=by
  unfold MB.propose
  split
  · rfl
  split
  · rfl
  split <;> rfl
end
end Go.FM
namespace Go.FM
open Go
structure MM where
  m:MB
  g:Nat
  gp:Nat
  A:Option Addr
  jn:Nat
  jc:Nat
  sv:Value
  sc:List Value
def MM.res (TM TP TS:Nat) (x:MM):List Res:=memR TM TP TS x.g x.gp x.A x.jn x.jc x.sv x.sc x.m
def MM.ok (x:MM) (H:Hp):Prop:=MemOk H x.m x.A x.jn x.jc x.sv x.sc
theorem MM.ok.mono {x:MM} {H H':Hp} (h:x.ok H) (hl:H.le H'):x.ok H':=MemOk.mono h hl
section
variable {H:Hp} {w:World} {L A:List Res}
theorem St.downL (rs:List Res) (h:St H w (A ++ (rs ++ L))):St H w (rs ++ (A ++ L)):=St.upL A h
def memsR (TM TP TS:Nat) (l:List MM):List Res:=l.flatMap (MM.res TM TP TS)
variable {TM TP TS i:Nat} {l:List MM} {x y:MM}
theorem mems_perm (h:l[i]? = some x):(memsR TM TP TS l).Perm (x.res TM TP TS ++ memsR TM TP TS (l.eraseIdx i)):=by
  obtain ⟨hi,rfl⟩:=List.getElem?_eq_some_iff.1 h
  have h1:=perm_pickG l i hi
  exact h1.flatMap_right _
theorem St.mmOut (rs:List Res) (h:St H w (rs ++ (memsR TM TP TS l ++ L))) (hx:l[i]? = some x):St H w (x.res TM TP TS ++ (rs ++ (memsR TM TP TS (l.eraseIdx i) ++ L))):=by
  refine St.upL rs (h.perm (List.Perm.append_left rs ?_))
  rw [← List.append_assoc]
  exact (mems_perm hx).append_right L
theorem St.mmIn (rs:List Res) (h:St H w (y.res TM TP TS ++ (rs ++ (memsR TM TP TS (l.eraseIdx i) ++ L)))) (hx:l[i]? = some x):St H w (rs ++ (memsR TM TP TS (l.set i y) ++ L)):=by
  refine (St.downL rs h).perm (List.Perm.append_left rs ?_)
  rw [← List.append_assoc]
  refine List.Perm.append_right L ?_
  obtain ⟨hi,_⟩:=List.getElem?_eq_some_iff.1 hx
  have h1:(l.set i y)[i]? = some y:=by rw [List.getElem?_set,if_pos rfl,if_pos hi]
  have h2:=mems_perm (TM:=TM) (TP:=TP) (TS:=TS) h1
  have e2:(l.set i y).eraseIdx i = l.eraseIdx i:=by
    apply List.ext_getElem?
    intro j
    rw [List.getElem?_eraseIdx,List.getElem?_eraseIdx]
    split
    · rw [List.getElem?_set,if_neg (by omega)]
    · rw [List.getElem?_set,if_neg (by omega)]
  rw [e2] at h2
  exact h2.symm
theorem St.mmBack (rs:List Res) (h:St H w (x.res TM TP TS ++ (rs ++ (memsR TM TP TS (l.eraseIdx i) ++ L)))) (hx:l[i]? = some x):St H w (rs ++ (memsR TM TP TS l ++ L)):=by
  have h1:=St.mmIn rs h hx
  have e:l.set i x = l:=by
    apply List.ext_getElem?
    intro j
    rw [List.getElem?_set]
    split
    · rename_i e; subst e
      split
      · exact hx.symm
      · rename_i h2; rw [List.getElem?_eq_none (by omega)]
    · rfl
  rwa [e] at h1
theorem MM.ok.new {H:Hp} {n self:Nat} {g:Nat} (h1:1 ≤ n) (h2:n ≤ 16) (h3:self < n):MM.ok ⟨MB.new n self,g,0,none,0,0,.slice none 0 0,[]⟩ H:=by
  have hz:VOk z0:=⟨by decide,by constructor <;> decide⟩
  exact MemB.okN ⟨h1,h2,h3,hz,by decide,hz,by decide,Sl.nil _ _ none,by simp,fun x hx => by rw [List.eq_of_mem_replicate hx]; exact ⟨hz,hz⟩⟩
end
end Go.FM

set_option linter.unusedVariables false
set_option linter.unusedSimpArgs false
namespace Go.FM
open Go
section
variable {P:Program} {N:Nat} {ρ:Nat → Value} {w:World} {ty xt f:Nat} {x:Operand} {cs:Array Value} {fs:Array Field} {fd:Field} {v:Value}
theorem x_field (hu:P.underlying xt = some (.struct fs)) (hf:fs[f]? = some fd) (hx:Ev N ρ x (.agg cs)) (hp:∀ w,(part fd.type cs fd.offset).run P w = .ok v w):Ex P N ρ w (.field xt x f) ty v w:=fun _ _ _ _ => by
  have h1:(en N ρ).eval x = .agg cs:=hx
  simp [execOp,h1,Instr.field,run_underlying hu,hf,asAgg,hp]
end
end Go.FM
namespace Go.FM
open Go
def flo (s:GState):Bool:=decide (0 ≤ s.Floor∧s.Floor ≤ 1073741824)
def propChk (p:GProp):Bool:=decide (p.states.length ≤ 900000) && p.states.all flo
theorem hpr_of {o:Option GProp} {fs:List GState} (h:o.all propChk = true) (hf:fs.all flo = true):∀ p,o = some p → p.states.length ≤ 900000∧(∀ s ∈ p.states,0 ≤ s.Floor∧s.Floor ≤ 1073741824)∧∀ s ∈ fs,0 ≤ s.Floor∧s.Floor ≤ 1073741824:=by
  rintro p rfl
  unfold propChk at h
  rw [Option.all_some,Bool.and_eq_true,decide_eq_true_iff] at h
  exact ⟨h.1,fun s hs => of_decide_eq_true (List.all_eq_true.1 h.2 s hs),fun s hs => of_decide_eq_true (List.all_eq_true.1 hf s hs)⟩
theorem el_eval2 {α β:Type} {o:Option α} {e:α} (g:α → β) (b:β) (hx:o = some e) (hl:o.map g = some b):g e = b:=by
  rw [hx] at hl; exact Option.some.inj hl
theorem el_eval {α β:Type} {l:List α} {e:α} {i:Nat} (g:α → β) (b:β) (hx:l[i]? = some e) (hl:(l[i]?).map g = some b):g e = b:=by
  rw [hx] at hl; exact Option.some.inj hl
end Go.FM

set_option linter.unusedVariables false
set_option linter.unusedSimpArgs false
namespace Go.FM
open Go
def kPtr:Kd Nat where
  sz:=1
  pos:=by decide
  rep _ x cs:=cs = [.pointer (some ⟨x,0,none⟩)]
  len h:=by rw [h]; rfl
  one h:=by rw [h]; simp [Value.oneCell']
  mono _ h:=h
  bts:=8
  bts0:=by decide
structure VR where
  v:Value
  c:List Value
  xs:List GView
def VR.res (TV:Nat) (x:VR):Res:=row TV 3 x.v x.xs.length x.c
def kVR:Kd VR where
  sz:=1
  pos:=by decide
  rep H x cs:=cs = [x.v]∧RowOk 3 x.v x.xs.length x.c∧kView.toKn.rows H x.xs x.c
  len h:=by rw [h.1]; rfl
  one h:=by
    obtain ⟨rfl,hok,_⟩:=h
    obtain ⟨A,c,hv,_⟩:=hok.slice
    simp [Value.oneCell',hv]
  mono hl h:=⟨h.1,h.2.1,Kn.rows_mono h.2.2 hl⟩
  bts:=24
  bts0:=by decide
def MsOk (l:List MM) (H:Hp):Prop:=∀ (i:Nat) (x:MM),l[i]? = some x → MM.ok x H
theorem MsOk.mono {l:List MM} {H H':Hp} (h:MsOk l H) (hl:H.le H'):MsOk l H':=fun i x hx => (h i x hx).mono hl
theorem MsOk.get {l:List MM} {H:Hp} {i:Nat} {x:MM} (h:MsOk l H) (hx:l[i]? = some x):MM.ok x H:=h i x hx
theorem MsOk.set {l:List MM} {H:Hp} {i:Nat} {x y:MM} (h:MsOk l H) (hx:l[i]? = some x) (hy:MM.ok y H) (_:y.g = x.g):MsOk (l.set i y) H:=fun j z hz => by
  rw [List.getElem?_set] at hz
  split at hz
  · split at hz
    · cases hz; exact hy
    · cases hz
  · exact h j z hz
theorem MsOk.snoc {l:List MM} {H:Hp} {y:MM} (h:MsOk l H) (hy:MM.ok y H):MsOk (l ++ [y]) H:=fun j z hz => by
  rcases Nat.lt_or_ge j l.length with h1 | h1
  · rw [List.getElem?_append_left h1] at hz; exact h j z hz
  · rw [List.getElem?_append_right h1] at hz
    rcases Nat.eq_zero_or_pos (j - l.length) with h2 | h2
    · rw [h2] at hz; cases hz; exact hy
    · rw [List.getElem?_eq_none (by simp; omega)] at hz; cases hz
theorem MsOk.nil (H:Hp):MsOk [] H:=fun i x hx => by simp at hx
def ptrs (l:List MM):List Nat:=l.map (·.g)
theorem ptrs_set {l:List MM} {i:Nat} {x y:MM} (hx:l[i]? = some x) (hy:y.g = x.g):ptrs (l.set i y) = ptrs l:=by
  unfold ptrs
  rw [List.map_set,hy]
  apply List.ext_getElem?
  intro j
  rw [List.getElem?_set]
  split
  · rename_i e
    subst e
    rw [List.getElem?_map,hx,if_pos (by rw [List.length_map]; exact (List.getElem?_eq_some_iff.1 hx).1)]; rfl
  · rfl
theorem ptr_at {l:List MM} {i e:Nat} (h:(ptrs l)[i]? = some e):∃ y,l[i]? = some y∧y.g = e:=by
  unfold ptrs at h
  rw [List.getElem?_map] at h
  cases hy:l[i]? with
  | none => rw [hy] at h; cases h
  | some y => rw [hy] at h; exact ⟨y,rfl,Option.some.inj h⟩
structure GR where
  n:Nat
  ms:List MM
  bag:List GOut
  vs:List VR
  a:Nat
  A:Option Addr
  ln:Nat
  lc:Nat
  bv:Value
  bc:List Value
  vv:Value
  vc:List Value
def mbs (l:List MM):List MB:=l.map (·.m)
def vxs (l:List VR):List (List GView):=l.map (·.xs)
def GR.g (x:GR):GG:=⟨x.n,mbs x.ms,x.bag,vxs x.vs⟩
def vrsR (TV:Nat) (l:List VR):List Res:=l.map (VR.res TV)
def GR.res (TG TO TVS TV TM TP TS:Nat) (x:GR):List Res :=
  obj x.a TG [.int .i64 (x.n:Int),.slice x.A x.ln x.lc,x.bv,x.vv]::row TO 16 x.bv x.bag.length x.bc::row TVS 1 x.vv x.vs.length x.vc::(memsR TM TP TS x.ms ++ vrsR TV x.vs)
structure GR.ok (x:GR) (H:Hp):Prop where
  mok:MsOk x.ms H
  l:Sl kPtr H x.A x.ln x.lc (ptrs x.ms)
  bok:RowOk 16 x.bv x.bag.length x.bc
  bhk:kOut.toKn.rows H x.bag x.bc
  vok:RowOk 1 x.vv x.vs.length x.vc
  vhk:kVR.toKn.rows H x.vs x.vc
theorem GR.ok.mono {x:GR} {H H':Hp} (h:x.ok H) (hl:H.le H'):x.ok H':=⟨h.mok.mono hl,h.l.mono hl,h.bok,Kn.rows_mono h.bhk hl,h.vok,Kn.rows_mono h.vhk hl⟩
section
variable {TG TO TVS TV TM TP TS:Nat} {H:Hp} {w:World} {L A B:List Res} {x:GR} {vs:List VR} {i:Nat} {r q:VR}
theorem perm3 {α:Type} (A B rs L:List α):((A ++ B) ++ (rs ++ L)).Perm (rs ++ (A ++ (B ++ L))):=by
  have h:((A ++ B) ++ rs).Perm (rs ++ (A ++ B)):=List.perm_append_comm
  simpa [List.append_assoc] using h.append_right L
theorem St.grpOpen (rs:List Res) (h:St H w (x.res TG TO TVS TV TM TP TS ++ (rs ++ L))):St H w (obj x.a TG [.int .i64 (x.n:Int),.slice x.A x.ln x.lc,x.bv,x.vv]::row TO 16 x.bv x.bag.length x.bc::row TVS 1 x.vv x.vs.length x.vc::(rs ++ (memsR TM TP TS x.ms ++ (vrsR TV x.vs ++ L)))):=by
  refine h.perm ?_
  unfold GR.res
  exact List.Perm.cons _ (List.Perm.cons _ (List.Perm.cons _ (perm3 _ _ _ _)))
theorem St.grpShut (rs:List Res) (h:St H w (obj x.a TG [.int .i64 (x.n:Int),.slice x.A x.ln x.lc,x.bv,x.vv]::row TO 16 x.bv x.bag.length x.bc::row TVS 1 x.vv x.vs.length x.vc::(rs ++ (memsR TM TP TS x.ms ++ (vrsR TV x.vs ++ L))))):St H w (x.res TG TO TVS TV TM TP TS ++ (rs ++ L)):=by
  refine h.perm ?_
  unfold GR.res
  exact List.Perm.cons _ (List.Perm.cons _ (List.Perm.cons _ (perm3 _ _ _ _).symm))
theorem vrs_perm (h:vs[i]? = some r):(vrsR TV vs).Perm (r.res TV::vrsR TV (vs.eraseIdx i)):=by
  obtain ⟨hi,rfl⟩:=List.getElem?_eq_some_iff.1 h
  exact (perm_pickG vs i hi).map (VR.res TV)
theorem St.vrOut (rs:List Res) (h:St H w (rs ++ (A ++ (vrsR TV vs ++ L)))) (hr:vs[i]? = some r):St H w (r.res TV::(rs ++ (A ++ (vrsR TV (vs.eraseIdx i) ++ L)))):=by
  refine h.perm ?_
  have h1:(vrsR TV vs ++ L).Perm (r.res TV::(vrsR TV (vs.eraseIdx i) ++ L)):=(vrs_perm hr).append_right L
  exact ((h1.append_left A).append_left rs).trans ((List.perm_middle.append_left rs).trans List.perm_middle)
theorem St.vrIn (rs:List Res) (h:St H w (q.res TV::(rs ++ (A ++ (vrsR TV (vs.eraseIdx i) ++ L))))) (hr:vs[i]? = some r):St H w (rs ++ (A ++ (vrsR TV (vs.set i q) ++ L))):=by
  obtain ⟨hi,_⟩:=List.getElem?_eq_some_iff.1 hr
  have h1:(vs.set i q)[i]? = some q:=by rw [List.getElem?_set,if_pos rfl,if_pos hi]
  have e2:(vs.set i q).eraseIdx i = vs.eraseIdx i:=by
    apply List.ext_getElem?
    intro j
    rw [List.getElem?_eraseIdx,List.getElem?_eraseIdx]
    split
    · rw [List.getElem?_set,if_neg (by omega)]
    · rw [List.getElem?_set,if_neg (by omega)]
  refine h.perm ?_
  have h2:=(vrs_perm (TV:=TV) h1).append_right L
  rw [e2] at h2
  exact (((h2.append_left A).append_left rs).trans ((List.perm_middle.append_left rs).trans List.perm_middle)).symm
theorem mems_snoc {l:List MM} {y:MM}:(memsR TM TP TS (l ++ [y])).Perm (y.res TM TP TS ++ memsR TM TP TS l):=by
  unfold memsR
  rw [List.flatMap_append]
  simp only [List.flatMap_cons,List.flatMap_nil,List.append_nil]
  exact List.perm_append_comm
theorem St.mmSnoc {l:List MM} {y:MM} (rs:List Res) (h:St H w (rs ++ (y.res TM TP TS ++ (memsR TM TP TS l ++ L)))):St H w (rs ++ (memsR TM TP TS (l ++ [y]) ++ L)):=by
  refine h.perm (List.Perm.append_left rs ?_)
  rw [← List.append_assoc]
  exact (mems_snoc.symm).append_right L
theorem St.vrSnoc (rs:List Res) (h:St H w (q.res TV::(rs ++ (A ++ (vrsR TV vs ++ L))))):St H w (rs ++ (A ++ (vrsR TV (vs ++ [q]) ++ L))):=by
  refine h.perm ?_
  have h2:(vrsR TV (vs ++ [q])).Perm (q.res TV::vrsR TV vs):=by
    unfold vrsR
    rw [List.map_append]
    exact List.perm_append_comm
  have h3:=h2.append_right L
  exact (((h3.append_left A).append_left rs).trans ((List.perm_middle.append_left rs).trans List.perm_middle)).symm
theorem St.nilL (rs:List Res) (h:St H w (rs ++ L)):St H w (rs ++ (memsR TM TP TS [] ++ (vrsR TV [] ++ L))):=h
end
section
variable {ms:List MM} {i:Nat} {x y:MM}
theorem grp_m {n:Nat} {bag:List GOut} {views:List (List GView)} (hx:ms[i]? = some x):(GG.mk n (mbs ms) bag views).m i = x.m:=by
  unfold GG.m mbs
  rw [List.getD_eq_getElem?_getD,List.getElem?_map,hx]; rfl
theorem mbs_set (y:MM):mbs (ms.set i y) = (mbs ms).set i y.m:=by unfold mbs; rw [List.map_set]
theorem vxs_set {vs:List VR} (q:VR):vxs (vs.set i q) = (vxs vs).set i q.xs:=by unfold vxs; rw [List.map_set]
theorem vxs_get {vs:List VR} {q:VR} (h:vs[i]? = some q):(vxs vs).getD i [] = q.xs:=by
  unfold vxs
  rw [List.getD_eq_getElem?_getD,List.getElem?_map,h]; rfl
end
end Go.FM

set_option linter.unusedVariables false
set_option linter.unusedSimpArgs false
namespace Go.FM
open Go
section
variable {n i:Nat} {ms:List MM} {bag l:List GOut} {vs:List VR} {a ln lc:Nat} {A:Option Addr} {bv vv:Value} {bc vc:List Value} {io:Option GInstall} {y:GInstall} {r:VR} {v:Value} {c:List Value}
theorem post_none {x:GR} (h:io = none):(GR.mk x.n x.ms (x.bag ++ l) x.vs a A ln lc bv bc vv vc).g = x.g.post i l io:=by
  subst h; rfl
theorem post_some {x:GR} (h:io = some y) (hr:x.vs[i]? = some r):(GR.mk x.n x.ms (x.bag ++ l) (x.vs.set i (VR.mk v c (r.xs ++ [y.View]))) a A ln lc bv bc vv vc).g = x.g.post i l io:=by
  subst h
  unfold GR.g GG.post vpost
  simp only [vxs_set,vxs_get hr]
end
end Go.FM

set_option linter.unusedVariables false
set_option linter.unusedSimpArgs false
namespace Go.FM
open Go
section
variable {x:GR} {g:GG} {mm y:MM} {i k e:Nat} {o:GOut} {a:GMove} {bag:List GOut} {ga ln lc:Nat} {A:Option Addr} {bv vv:Value} {bc vc:List Value}
theorem GOk.n1 (h:GOk g):1 ≤ g.n∧g.n ≤ 16:=by obtain ⟨B,log,h1,_⟩:=h; exact ⟨h1.n1,h1.n16⟩
theorem gok_ms (h:GOk x.g):x.ms.length = x.n:=by
  obtain ⟨B,log,h1,_⟩:=h
  have:=h1.len
  show _ = x.g.n
  rw [← this]; show _ = (mbs x.ms).length
  unfold mbs; rw [List.length_map]
theorem gok_vs (h:GOk x.g):x.vs.length = x.n:=by
  obtain ⟨B,log,h1,_⟩:=h
  have:=h1.vlen
  show _ = x.g.n
  rw [← this]; show _ = (vxs x.vs).length
  unfold vxs; rw [List.length_map]
theorem gok_vl (h:GOk x.g):∀ q ∈ x.vs,q.xs.length ≤ 2000000:=fun q hq => by
  obtain ⟨B,log,h1,_,h3⟩:=h
  obtain ⟨i,hi,rfl⟩:=List.getElem_of_mem hq
  have:=h1.vl i
  have e:x.g.views.getD i [] = x.vs[i].xs:=vxs_get (List.getElem?_eq_getElem hi)
  rw [e] at this; omega
theorem gok_m (h:x.ms[i]? = some mm):x.g.m i = mm.m:=grp_m h
theorem gok_i (h:GOk x.g) (hx:x.ms[i]? = some mm):i < x.n:=by
  have:=(List.getElem?_eq_some_iff.1 hx).1
  rw [← gok_ms h]; exact this
theorem gok_tick (h:GOk x.g) (hx:x.ms[i]? = some mm) (e:Nat):(MB.tick mm.m e (GState.mk mm.m.cur.ID 0 [])).2.1.length ≤ 16:=by
  have hi:=gok_i h hx
  obtain ⟨B,log,h1,h2,h3⟩:=h
  have hst:=(tick_step (h1.node i hi) h1.log hi h1.n16 (by omega) e (st:=stOf (x.g.m i)) rfl).2.len
  rw [gok_m hx] at hst
  exact Nat.le_trans hst h1.n16
theorem gok_to (h:GOk x.g) (ho:x.bag[k]? = some o):0 ≤ o.To∧o.To < (x.n:Int):=by
  obtain ⟨B,log,h1,h2,h3⟩:=h
  exact (h1.bag o (List.mem_of_getElem? ho)).1
theorem gok_in (h:GOk x.g) (ho:x.bag[k]? = some o) (hx:x.ms[o.To.toNat]? = some mm):(MB.inn mm.m o.F (GState.mk mm.m.cur.ID 0 [])).2.1.length ≤ 16:=by
  have hi:=gok_i h hx
  obtain ⟨B,log,h1,h2,h3⟩:=h
  have hst:=(inn_step (st:=stOf (x.g.m o.To.toNat)) (h1.node _ hi) h1.log hi h1.n16 (h1.bag o (List.mem_of_getElem? ho)).2.1 h2 rfl).len
  rw [gok_m hx] at hst
  exact Nat.le_trans hst h1.n16
theorem gok_pr (h:GOk x.g) (ho:x.bag[k]? = some o) (hx:x.ms[i]? = some mm):∀ p,mm.m.prop = some p → p.states.length ≤ 900000∧(∀ s ∈ p.states,0 ≤ s.Floor∧s.Floor ≤ 1073741824)∧∀ s ∈ o.F.States,0 ≤ s.Floor∧s.Floor ≤ 1073741824:=fun p hp => by
  have hi:=gok_i h hx
  obtain ⟨B,log,h1,h2,h3⟩:=h
  have hn:=(h1.node i hi).pst p (by rw [gok_m hx]; exact hp)
  have hf:=(h1.bag o (List.mem_of_getElem? ho)).2.1.st
  exact ⟨by omega,fun s hs => by rw [hn.1 s hs]; omega,fun s hs => by rw [hf.1 s hs]; omega⟩
theorem mv_tick (hk:a.Kind % 9 < 3) (hx:x.ms[a.I % x.n]? = some mm) (hy:y.m = (MB.tick mm.m a.Est (GState.mk mm.m.cur.ID 0 [])).1) :
    (GR.mk x.n (x.ms.set (a.I % x.n) y) x.bag x.vs ga A ln lc bv bc vv vc).g.post (a.I % x.n) (MB.tick mm.m a.Est (GState.mk mm.m.cur.ID 0 [])).2.1 (MB.tick mm.m a.Est (GState.mk mm.m.cur.ID 0 [])).2.2 = x.g.move a:=by
  unfold GG.move
  rw [if_pos hk]
  show _ = x.g.tickAt (a.I % x.n) a.Est
  unfold GG.tickAt GG.put GG.post
  rw [gok_m hx]
  show GG.mk _ (mbs (x.ms.set _ y)) _ _ = _
  rw [mbs_set,hy]; rfl
theorem comes_is (hb:x.bag.length ≠ 0) (keep hand:Bool) (e:Nat):x.g.comes e keep hand = (let g1:=if keep then x.g else x.g.without (e % x.bag.length); if hand then g1.inAt (x.bag.getD (e % x.bag.length) o00) else g1):=by
  unfold GG.comes
  rw [if_neg (fun h => hb (by rw [show x.bag = [] from h]; rfl))]; rfl
theorem mv_none (h1:3 ≤ a.Kind % 9) (h2:a.Kind % 9 < 8) (hb:x.bag.length = 0):x.g = x.g.move a:=by
  unfold GG.move
  rw [if_neg (by omega),if_pos h2]
  unfold GG.comes
  rw [if_pos (show x.g.bag = [] from List.eq_nil_of_length_eq_zero hb)]
def bagOf (x:GR) (a:GMove):List GOut:=if a.Keep then x.bag else x.bag.eraseIdx (a.Est % x.bag.length)
theorem bag_keep (h:a.Keep = true):x.bag = bagOf x a:=by unfold bagOf; rw [if_pos h]
theorem bag_go (h:a.Keep = false):x.bag.take (a.Est % x.bag.length) ++ x.bag.drop (a.Est % x.bag.length + 1) = bagOf x a:=by
  unfold bagOf; rw [h,if_neg (by decide),List.eraseIdx_eq_take_drop_succ]
theorem mv_drop (h1:7 ≤ a.Kind % 9) (h2:a.Kind % 9 < 8) (hb:x.bag.length ≠ 0) (hg:bag = bagOf x a):(GR.mk x.n x.ms bag x.vs ga A ln lc bv bc vv vc).g = x.g.move a:=by
  unfold GG.move
  rw [if_neg (by omega),if_pos h2,comes_is hb,decide_eq_false (by omega)]
  subst hg
  unfold bagOf
  cases a.Keep <;> rfl
theorem mv_in (h1:3 ≤ a.Kind % 9) (h2:a.Kind % 9 < 7) (hb:x.bag.length ≠ 0) (hg:bag = bagOf x a) (ho:x.bag[a.Est % x.bag.length]? = some o) (hx:x.ms[o.To.toNat]? = some mm) (hy:y.m = (MB.inn mm.m o.F (GState.mk mm.m.cur.ID 0 [])).1) :
    (GR.mk x.n (x.ms.set o.To.toNat y) bag x.vs ga A ln lc bv bc vv vc).g.post o.To.toNat (MB.inn mm.m o.F (GState.mk mm.m.cur.ID 0 [])).2.1 (MB.inn mm.m o.F (GState.mk mm.m.cur.ID 0 [])).2.2.1 = x.g.move a:=by
  unfold GG.move
  rw [if_neg (by omega),if_pos (by omega),comes_is hb,decide_eq_true h2]
  have ho2:x.bag.getD (a.Est % x.bag.length) o00 = o:=by rw [List.getD_eq_getElem?_getD,ho]; rfl
  rw [ho2]
  subst hg
  have key:∀ (B:List GOut),(GR.mk x.n (x.ms.set o.To.toNat y) B x.vs ga A ln lc bv bc vv vc).g.post o.To.toNat (MB.inn mm.m o.F (GState.mk mm.m.cur.ID 0 [])).2.1 (MB.inn mm.m o.F (GState.mk mm.m.cur.ID 0 [])).2.2.1 = (GG.mk x.n (mbs x.ms) B (vxs x.vs)).inAt o:=by
    intro B
    have e:(GG.mk x.n (mbs x.ms) B (vxs x.vs)).m o.To.toNat = mm.m:=grp_m hx
    unfold GG.inAt GG.put GG.post
    rw [e]
    show GG.mk _ (mbs (x.ms.set _ y)) _ _ = _
    rw [mbs_set,hy]; rfl
  rw [key]
  unfold bagOf
  cases a.Keep <;> rfl
theorem beatsTo_succ (g:GG) (i k:Nat):g.beatsTo i (k + 1) = g.beatsTo i k ++ (if k ≠ i then [GOut.mk (k:Int) (frBeat i (g.m i))] else []):=by
  unfold GG.beatsTo
  rw [List.range_succ,List.filter_append,List.map_append]
  congr 1
  by_cases h:k = i
  · rw [if_neg (by simpa using h)]; simp [h]
  · rw [if_pos h]; simp [h]
theorem beat_yes (hx:x.ms[i]? = some mm) (h:k ≠ i):x.bag ++ x.g.beatsTo i k ++ [GOut.mk (k:Int) (GFrame.mk 1 (i:Int) (GViewID.mk 0 0) 0 mm.m.cur.ID mm.m.prom [] 0 [] [] 0 0)] = x.bag ++ x.g.beatsTo i (k + 1):=by
  rw [beatsTo_succ,if_pos h,gok_m hx,List.append_assoc]; rfl
theorem beat_no (h:k = i):x.bag ++ x.g.beatsTo i k = x.bag ++ x.g.beatsTo i (k + 1):=by
  rw [beatsTo_succ,if_neg (by simpa using h),List.append_nil]
theorem beat_zero:x.bag = x.bag ++ x.g.beatsTo i 0:=(List.append_nil _).symm
theorem mv_beat (h:¬ a.Kind % 9 < 8) (hg:bag = x.bag ++ x.g.beatsTo (a.I % x.n) x.n):(GR.mk x.n x.ms bag x.vs ga A ln lc bv bc vv vc).g = x.g.move a:=by
  unfold GG.move
  rw [if_neg (by omega),if_neg h]
  subst hg; rfl
theorem begin_g {n:Nat} {ms:List MM} {vs:List VR} (hm:mbs ms = (List.range n).map (MB.new n)) (hv:vxs vs = List.replicate n []):(GR.mk n ms [] vs ga A ln lc bv bc vv vc).g = GG.begin_ n:=by
  unfold GR.g GG.begin_
  rw [← hm,← hv]
theorem mbs_snoc {ms:List MM} {n k:Nat} (hm:mbs ms = (List.range k).map (MB.new n)) (hy:y.m = MB.new n k):mbs (ms ++ [y]) = (List.range (k + 1)).map (MB.new n):=by
  unfold mbs at hm ⊢
  rw [List.map_append,hm,List.range_succ,List.map_append]
  show _ ++ [y.m] = _ ++ [MB.new n k]
  rw [hy]
theorem vxs_snoc {vs:List VR} {q:VR} {k:Nat} (hv:vxs vs = List.replicate k []) (hq:q.xs = []):vxs (vs ++ [q]) = List.replicate (k + 1) []:=by
  unfold vxs at hv ⊢
  rw [List.map_append,hv,List.replicate_succ']
  show _ ++ [q.xs] = _
  rw [hq]
theorem St.rowLen {H:Hp} {w:World} {L:List Res} {e s n n':Nat} {v:Value} {xs:List Value} (hn:n' = n) (rs:List Res) (h:St H w (rs ++ row e s v n xs::L)):St H w (rs ++ row e s v n' xs::L):=by subst hn; exact h
theorem ptrs_snoc {ms:List MM}:ptrs (ms ++ [y]) = ptrs ms ++ [y.g]:=by unfold ptrs; rw [List.map_append]; rfl
end
end Go.FM

set_option linter.unusedVariables false
set_option linter.unusedSimpArgs false
namespace Go.FM
open Go
section
variable {x:GR} {g:GG} {mm y:MM} {i k e B:Nat} {log:List GView} {cur u v:GView} {vs:List GView} {q:VR}
theorem RunOk.bagl (h:RunOk i g) (hi:i ≤ 900):g.bag.length ≤ 14400:=by
  obtain ⟨log,h1,h2⟩:=h
  have:=Nat.mul_le_mul hi h1.n16
  omega
theorem RunOk.bag6 (h:RunOk i g) (hi:i ≤ 150) (hn:g.n ≤ 6):g.bag.length ≤ 900:=by
  obtain ⟨log,h1,h2⟩:=h
  have:=Nat.mul_le_mul hi hn
  omega
theorem GOk.mlen (h:GOk g) (a:GMove):(g.move a).bag.length ≤ g.bag.length + g.n:=by
  obtain ⟨B,log,h1,h2,h3⟩:=h
  exact move_len h1 h2 (by omega) a
theorem GOk.pot6 (h:GOk g) (hn:g.n ≤ 6) (hb:g.bag.length ≤ 972):g.pot + 0 ≤ 1980:=by
  have h1:=h.pot.2
  have:=Nat.mul_le_mul hn hn
  omega
theorem RunOk.at (h:RunOk i g) (hi:i ≤ 900):∃ log,Inv (1 + i) log g:=by obtain ⟨log,h1,_⟩:=h; exact ⟨log,h1⟩
end
end Go.FM
