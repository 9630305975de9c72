/- Steps of the proofs over the functions of this seat, printed by a program (gen.py) and checked by Lean. -/
import Derived.Test.YtlfihfmmhhcigaaW01
import Derived.Deep.CondSized
import Derived.OpenShut
import Derived.JoinedCond
import Derived.Test.YtlfihfmmhhcigaaRows
set_option linter.unusedVariables false
set_option linter.unusedSimpArgs false
namespace Go.FM
open Go
def rguard {α:Type} (g:α → Bool) (z:α → α) (R:Rd_ α):Rd_ α:=fun bs b => if (R bs b).2.2 = false∧g (R bs b).1 = true then R bs b else (z (R bs b).1,(R bs b).2.1,true)
theorem Rdr.guard {α:Type} {R:Rd_ α} {E:α → List Nat} {G:α → Prop} (h:Rdr R E G) (g:α → Bool) (z:α → α):Rdr (rguard g z R) E (fun x => G x∧g x = true) where
  bad bs:=by unfold rguard; rw [if_neg (by rw [h.bad]; simp)]
  sm bs b hs:=by unfold rguard; split <;> exact h.sm bs b hs
  snd bs x r hs he:=by
    unfold rguard at he
    split at he
    · rename_i hc
      obtain ⟨k1,k2⟩:=h.snd bs x r hs he
      exact ⟨⟨k1,by rw [he] at hc; exact hc.2⟩,k2⟩
    · cases (triple.1 he).2.2
  cmp x r hg:=by
    unfold rguard
    rw [if_pos (by rw [h.cmp x r hg.1]; exact ⟨rfl,hg.2⟩),h.cmp x r hg.1]
def rI (most:Int):Rd_ Nat:=fun bs b => rdI bs b most
def rB:Rd_ (List Nat):=fun bs b => rdB bs b 1048576
def rdV:Rd_ GViewID:=rmap (fun p => GViewID.mk p.1 (p.2:Int)) (rseq rdU (rI 15))
def rdVok:Rd_ GViewID:=rguard formVI (fun _ => ⟨0,0⟩) rdV
def rdItem:Rd_ GItem:=rmap (fun p => GItem.mk (p.1:Int) p.2) (rseq (rI 15) rB)
def rdItems:Rd_ (List GItem):=rcount rdItem 4096
def rdMsgs:Rd_ (List (List Nat)):=rcount rB 4096
def mkSt (p:GViewID × Nat × List GItem):GState:=GState.mk p.1 (p.2.1:Int) p.2.2
def rdStR:Rd_ GState:=rmap mkSt (rseq rdVok (rseq (rI 1073741824) rdItems))
def rdStC:Rd_ GState:=rguard sForm id rdStR
def VB (v:GViewID):Prop:=v.N < 18446744073709551616∧formVI v = true
def IB_ (l:List GItem):Prop:=okItems l = true∧∀ x ∈ l,x.M.length ≤ 1048576
theorem rdrV:Rdr rdV vidE (fun v => v.N < 18446744073709551616∧0 ≤ v.P∧v.P ≤ 15) :=
  (rdrU.seq (rdrI 15 (by decide))).map (fun p hp => by
    obtain ⟨n,q⟩:=p
    obtain ⟨h1,h2,h3⟩:=hp
    refine ⟨?_,h1,by simp,h2⟩
    show uenc n ++ [((q:Int) % 256).toNat] = uenc n ++ uenc q
    have h2:(q:Int) ≤ 15:=h2
    rw [uenc_one (n:=q) (by omega),show ((q:Int) % 256).toNat = q by omega]) (fun v hv => by
    obtain ⟨n,p⟩:=v
    obtain ⟨h1,h2,h3⟩:=hv
    refine ⟨(n,p.toNat),?_,h1,?_,?_⟩
    · show GViewID.mk n ((p.toNat:Nat):Int) = _
      rw [Int.toNat_of_nonneg h2]
    · show ((p.toNat:Nat):Int) ≤ 15; have h3:p ≤ 15:=h3; have h2:0 ≤ p:=h2; omega
    · show p.toNat < _; have h3:p ≤ 15:=h3; omega)
theorem formVI_in {v:GViewID} (h:formVI v = true):0 ≤ v.P∧v.P ≤ 15:=by
  have:=of_decide_eq_true h; omega
theorem rdrVok:Rdr rdVok vidE VB:=by
  have:=rdrV.guard formVI (fun _ => ⟨0,0⟩)
  exact ⟨this.bad,this.sm,fun bs x r hs he => by
    obtain ⟨⟨⟨h1,h2⟩,h3⟩,h4⟩:=this.snd bs x r hs he
    exact ⟨⟨h1,h3⟩,h4⟩,fun x r hg => this.cmp x r ⟨⟨hg.1,formVI_in hg.2⟩,hg.2⟩⟩
theorem rdrItem:Rdr rdItem itemE (fun x => okFrom x = true∧x.M.length ≤ 1048576) :=
  ((rdrI 15 (by decide)).seq (rdrB 1048576 (by decide) (by decide))).map (fun p hp => by
    obtain ⟨n,q⟩:=p
    obtain ⟨⟨h1,h2⟩,h3⟩:=hp
    have h1:(n:Int) ≤ 15:=h1
    have h3:(q.length:Int) ≤ 1048576:=h3
    refine ⟨?_,decide_eq_true ?_,?_⟩
    · show [((n:Int) % 256).toNat] ++ bytesE q = uenc n ++ bytesE q
      rw [uenc_one (n:=n) (by omega),show ((n:Int) % 256).toNat = n by omega]
    · show 0 ≤ (n:Int)∧(n:Int) < 16; omega
    · show q.length ≤ 1048576; omega) (fun x hx => by
    obtain ⟨p,m⟩:=x
    have h1:0 ≤ p∧p < 16:=of_decide_eq_true hx.1
    have h2:m.length ≤ 1048576:=hx.2
    refine ⟨(p.toNat,m),?_,⟨?_,?_⟩,?_⟩
    · show GItem.mk ((p.toNat:Nat):Int) m = _
      rw [Int.toNat_of_nonneg h1.1]
    · show ((p.toNat:Nat):Int) ≤ 15; omega
    · show p.toNat < _; omega
    · show (m.length:Int) ≤ 1048576; omega)
theorem rdrItems:Rdr rdItems itemsE IB_:=by
  have:=rdrItem.count 4096 (by decide) (by decide)
  refine ⟨this.bad,this.sm,fun bs l r hs he => ?_,fun l r hg => this.cmp l r ?_⟩
  · obtain ⟨⟨h1,h2⟩,h3⟩:=this.snd bs l r hs he
    exact ⟨⟨by unfold okItems; rw [decide_eq_true (by omega),List.all_eq_true.2 fun x hx => (h2 x hx).1]; rfl,fun x hx => (h2 x hx).2⟩,h3⟩
  · have h1:=hg.1
    unfold okItems at h1
    rw [Bool.and_eq_true] at h1
    have h2:=of_decide_eq_true h1.1
    exact ⟨by omega,fun x hx => ⟨List.all_eq_true.1 h1.2 x hx,hg.2 x hx⟩⟩
theorem rdrMsgs:Rdr rdMsgs msgsE (fun l => l.length ≤ 4096∧∀ m ∈ l,m.length ≤ 1048576):=by
  have:=(rdrB 1048576 (by decide) (by decide)).count 4096 (by decide) (by decide)
  refine ⟨this.bad,this.sm,fun bs l r hs he => ?_,fun l r hg => this.cmp l r ⟨by have:=hg.1; omega,fun m hm => by have:=hg.2 m hm; omega⟩⟩
  obtain ⟨⟨h1,h2⟩,h3⟩:=this.snd bs l r hs he
  exact ⟨⟨by omega,fun m hm => by have:=h2 m hm; omega⟩,h3⟩
def SB (s:GState):Prop:=VB s.V∧0 ≤ s.Floor∧s.Floor ≤ 1073741824∧IB_ s.Items
theorem rdrStR:Rdr rdStR stateE SB :=
  (rdrVok.seq ((rdrI 1073741824 (by decide)).seq rdrItems)).map (fun p hp => by
    obtain ⟨v,n,l⟩:=p
    obtain ⟨h1,⟨h2,h3⟩,h4⟩:=hp
    have h2:(n:Int) ≤ 1073741824:=h2
    refine ⟨?_,h1,?_,h2,h4⟩
    · show vidE v ++ uenc ((n:Int) % 18446744073709551616).toNat ++ itemsE l = vidE v ++ (uenc n ++ itemsE l)
      rw [List.append_assoc,show ((n:Int) % 18446744073709551616).toNat = n by omega]
    · show 0 ≤ (n:Int); omega) (fun s hs => by
    obtain ⟨v,n,l⟩:=s
    obtain ⟨h1,h2,h3,h4⟩:=hs
    have h2:0 ≤ n:=h2
    have h3:n ≤ 1073741824:=h3
    refine ⟨(v,n.toNat,l),?_,h1,⟨?_,?_⟩,h4⟩
    · show GState.mk v ((n.toNat:Nat):Int) l = _
      rw [Int.toNat_of_nonneg h2]
    · show ((n.toNat:Nat):Int) ≤ 1073741824; omega
    · show n.toNat < _; omega)
theorem rdrStC:Rdr rdStC stateE (fun s => SB s∧sForm s = true):=rdrStR.guard sForm id
def SsB (l:List GState):Prop:=okStates l = true∧∀ s ∈ l,s.V.N < 18446744073709551616∧∀ x ∈ s.Items,x.M.length ≤ 1048576
theorem sForm_floor {s:GState} (h:sForm s = true):0 ≤ s.Floor∧s.Floor ≤ 1073741824 :=
  ⟨Int.not_lt.1 (fun hn => (by rw [sForm_false (.inr (.inl hn))] at h; cases h)),Int.not_lt.1 (fun hn => (by rw [sForm_false (.inr (.inr (.inl hn)))] at h; cases h))⟩
theorem states_in {l:List GState} (h:SsB l):(l.length:Int) ≤ 4096∧∀ s ∈ l,SB s∧sForm s = true:=by
  have h1:=h.1
  unfold okStates at h1
  rw [Bool.and_eq_true] at h1
  have h2:=of_decide_eq_true h1.1
  refine ⟨by omega,fun s hs => ?_⟩
  have h3:=List.all_eq_true.1 h1.2 s hs
  unfold okState at h3
  rw [Bool.and_eq_true] at h3
  have h4:=sForm_floor h3.1
  exact ⟨⟨⟨(h.2 s hs).1,sForm_vid h3.1⟩,h4.1,h4.2,h3.2,(h.2 s hs).2⟩,h3.1⟩
theorem rdrStates:Rdr (rcount rdStC 4096) statesE SsB:=by
  have:=rdrStC.count 4096 (by decide) (by decide)
  refine ⟨this.bad,this.sm,fun bs l r hs he => ?_,fun l r hg => this.cmp l r (states_in hg)⟩
  obtain ⟨⟨h1,h2⟩,h3⟩:=this.snd bs l r hs he
  refine ⟨⟨?_,fun s hs => ⟨(h2 s hs).1.1.1,(h2 s hs).1.2.2.2.2⟩⟩,h3⟩
  unfold okStates
  rw [decide_eq_true (by omega),List.all_eq_true.2 fun s hs => ?_]
  · rfl
  · unfold okState; rw [(h2 s hs).2,(h2 s hs).1.2.2.2.1]; rfl
theorem statesR_cmp {l:List GState} (r:List Nat) (h:SsB l):rcount rdStR 4096 (statesE l ++ r) false = (l,r,false) :=
  (rdrStR.count 4096 (by decide) (by decide)).cmp l r ⟨(states_in h).1,fun s hs => ((states_in h).2 s hs).1⟩
def rdVC (bs:List Nat) (b:Bool):(GViewID × Bool) × List Nat × Bool:=(if (rdV bs b).2.2 = false∧formVI (rdV bs b).1 = true then ((rdV bs b).1,true) else (⟨0,0⟩,false),(rdV bs b).2)
def stC (bs:List Nat) (b:Bool):(GState × Bool) × List Nat × Bool :=
  ((mkSt ((rdVC bs b).1.1,(rdI (rdVC bs b).2.1 (rdVC bs b).2.2 1073741824).1,(rdItems (rdI (rdVC bs b).2.1 (rdVC bs b).2.2 1073741824).2.1 (rdI (rdVC bs b).2.1 (rdVC bs b).2.2 1073741824).2.2).1),
    (rdVC bs b).1.2 && sForm (mkSt ((rdVC bs b).1.1,(rdI (rdVC bs b).2.1 (rdVC bs b).2.2 1073741824).1,(rdItems (rdI (rdVC bs b).2.1 (rdVC bs b).2.2 1073741824).2.1 (rdI (rdVC bs b).2.1 (rdVC bs b).2.2 1073741824).2.2).1))),
   (rdItems (rdI (rdVC bs b).2.1 (rdVC bs b).2.2 1073741824).2.1 (rdI (rdVC bs b).2.1 (rdVC bs b).2.2 1073741824).2.2).2)
def stsC:Nat → List Nat → Bool → (List GState × Bool) × List Nat × Bool
  | 0,bs,b => (([],true),bs,b)
  | n + 1,bs,b => if b = true then (([],true),bs,b) else if (stC bs b).1.2 = true then (((stC bs b).1.1::(stsC n (stC bs b).2.1 (stC bs b).2.2).1.1,(stsC n (stC bs b).2.1 (stC bs b).2.2).1.2),(stsC n (stC bs b).2.1 (stC bs b).2.2).2) else (([],false),(stC bs b).2)
def statesC (bs:List Nat) (b:Bool):(List GState × Bool) × List Nat × Bool :=
  (if (stsC (rdI bs b 4096).1 (rdI bs b 4096).2.1 (rdI bs b 4096).2.2).1.2 = true then (stsC (rdI bs b 4096).1 (rdI bs b 4096).2.1 (rdI bs b 4096).2.2).1 else ([],false),(stsC (rdI bs b 4096).1 (rdI bs b 4096).2.1 (rdI bs b 4096).2.2).2)
def Agree {α:Type} (t:(α × Bool) × List Nat × Bool) (u:α × List Nat × Bool):Prop:=(t.1.2 = true∧t.2.2 = false → u = (t.1.1,t.2.1,false))∧(u.2.2 = false → t.1.2 = true∧t.2.2 = false)
theorem vc_agree (bs:List Nat) (b:Bool):Agree (rdVC bs b) (rdVok bs b):=by
  unfold Agree rdVC rdVok rguard
  by_cases h:(rdV bs b).2.2 = false∧formVI (rdV bs b).1 = true
  · rw [if_pos h,if_pos h]
    exact ⟨fun _ => triple.2 ⟨rfl,rfl,h.1⟩,fun _ => ⟨rfl,h.1⟩⟩
  · rw [if_neg h,if_neg h]
    exact ⟨fun h1 => Bool.noConfusion (show false = true from h1.1),fun h1 => Bool.noConfusion (show true = false from h1)⟩
theorem rdI_ok {bs:List Nat} {b:Bool} {most:Int} (h:(rdI bs b most).2.2 = false):b = false:=by
  cases b with
  | false => rfl
  | true => rw [rdI_bad (.inl rfl)] at h; cases h
theorem stC_agree (bs:List Nat) (b:Bool):Agree (stC bs b) (rdStC bs b):=by
  have hv:=vc_agree bs b
  have key:∀ (v:(GViewID × Bool) × List Nat × Bool),v = rdVC bs b → (rdStR bs b) = (mkSt ((rdVok bs b).1,(rdI (rdVok bs b).2.1 (rdVok bs b).2.2 1073741824).1,(rdItems (rdI (rdVok bs b).2.1 (rdVok bs b).2.2 1073741824).2.1 (rdI (rdVok bs b).2.1 (rdVok bs b).2.2 1073741824).2.2).1),(rdItems (rdI (rdVok bs b).2.1 (rdVok bs b).2.2 1073741824).2.1 (rdI (rdVok bs b).2.1 (rdVok bs b).2.2 1073741824).2.2).2):=fun v _ => rfl
  have hR:=key _ rfl
  unfold Agree
  constructor
  · rintro ⟨h1,h2⟩
    have h1':((rdVC bs b).1.2 && sForm _) = true:=h1
    rw [Bool.and_eq_true] at h1'
    have hb2:(rdI (rdVC bs b).2.1 (rdVC bs b).2.2 1073741824).2.2 = false:=rdrItems.ok h2
    have hb1:=rdI_ok hb2
    have hu:=hv.1 ⟨h1'.1,hb1⟩
    rw [hu] at hR
    simp only [] at hR
    have e1:(rdStR bs b) = ((stC bs b).1.1,(stC bs b).2.1,false):=by
      have h2':=h2
      unfold stC at h2' ⊢
      rw [hb1] at h2' ⊢
      rw [hR]
      exact triple.2 ⟨rfl,rfl,h2'⟩
    unfold rdStC rguard
    rw [if_pos (by rw [e1]; exact ⟨rfl,h1'.2⟩),e1]
  · intro h
    unfold rdStC rguard at h
    split at h
    · rename_i hc
      have h3:(rdItems (rdI (rdVok bs b).2.1 (rdVok bs b).2.2 1073741824).2.1 (rdI (rdVok bs b).2.1 (rdVok bs b).2.2 1073741824).2.2).2.2 = false:=by have:=hc.1; rw [hR] at this; exact this
      have h4:=rdI_ok (rdrItems.ok h3)
      obtain ⟨k1,k2⟩:=hv.2 h4
      have hu:=hv.1 ⟨k1,k2⟩
      rw [hu] at hR
      simp only [] at hR
      have e1:(rdStR bs b) = ((stC bs b).1.1,(stC bs b).2):=by
        rw [hR]
        unfold stC
        rw [k2]
      rw [e1] at hc
      refine ⟨?_,hc.1⟩
      show ((rdVC bs b).1.2 && sForm (stC bs b).1.1) = true
      rw [k1,hc.2]; rfl
    · cases h
theorem sts_agree:∀ (n:Nat) (bs:List Nat) (b:Bool),Agree (stsC n bs b) (rlist rdStC n bs b)
  | 0,bs,b => ⟨fun h => triple.2 ⟨rfl,rfl,h.2⟩,fun h => ⟨rfl,h⟩⟩
  | n + 1,bs,b => by
    have hs:=stC_agree bs b
    unfold Agree stsC rlist
    cases hb:b with
    | true =>
      rw [if_pos rfl,if_pos rfl]
      exact ⟨fun h => Bool.noConfusion (show true = false from h.2),fun h => Bool.noConfusion (show true = false from h)⟩
    | false =>
      rw [hb] at hs
      rw [if_neg (show ¬ (false = true) from fun h => Bool.noConfusion h),if_neg (show ¬ (false = true) from fun h => Bool.noConfusion h)]
      by_cases hc:(stC bs false).1.2 = true
      · rw [if_pos hc]
        have ih:=sts_agree n (stC bs false).2.1 (stC bs false).2.2
        constructor
        · rintro ⟨h1,h2⟩
          have h3:(stC bs false).2.2 = false:=by
            cases hq:(stC bs false).2.2 with
            | false => rfl
            | true =>
              simp only [] at h2
              rw [hq] at h2
              cases n <;> simp [stsC] at h2
          have hu:=hs.1 ⟨hc,h3⟩
          have h4:=ih.1 ⟨h1,h2⟩
          rw [hu]
          simp only []
          rw [h3] at h4 ⊢
          rw [h4]
        · intro h
          have h3:(rdStC bs false).2.2 = false:=by
            cases hq:(rdStC bs false).2.2 with
            | false => rfl
            | true => simp only [] at h; rw [hq,rlist_bad rdrStC] at h; cases h
          obtain ⟨_,h4⟩:=hs.2 h3
          have hu:=hs.1 ⟨hc,h4⟩
          rw [hu] at h
          simp only [] at h
          have ih2:=ih
          rw [h4] at ih2
          have h5:=ih2.2 h
          rw [h4]; exact h5
      · rw [if_neg hc]
        constructor
        · rintro ⟨h1,_⟩; cases h1
        · intro h
          have h3:(rdStC bs false).2.2 = false:=by
            cases hq:(rdStC bs false).2.2 with
            | false => rfl
            | true => simp only [] at h; rw [hq,rlist_bad rdrStC] at h; cases h
          exact absurd (hs.2 h3).1 hc
theorem states_agree (bs:List Nat) (b:Bool):Agree (statesC bs b) (rcount rdStC 4096 bs b):=by
  have:=sts_agree (rdI bs b 4096).1 (rdI bs b 4096).2.1 (rdI bs b 4096).2.2
  unfold Agree statesC rcount
  constructor
  · rintro ⟨h1,h2⟩
    by_cases hc:(stsC (rdI bs b 4096).1 (rdI bs b 4096).2.1 (rdI bs b 4096).2.2).1.2 = true
    · rw [if_pos hc]; exact this.1 ⟨hc,h2⟩
    · rw [if_neg hc] at h1; cases h1
  · intro h
    obtain ⟨h1,h2⟩:=this.2 h
    rw [if_pos h1]; exact ⟨h1,h2⟩
end Go.FM

set_option linter.unusedVariables false
set_option linter.unusedSimpArgs false
namespace Go.FM
open Go
def zF:GFrame:=⟨0,0,⟨0,0⟩,0,⟨0,0⟩,⟨0,0⟩,[],0,[],[],0,0⟩
structure FB (f:GFrame):Prop where
  id:f.ID.N < 18446744073709551616
  cur:f.Cur.N < 18446744073709551616
  prom:f.Prom.N < 18446744073709551616
  set:f.Set < 65536
  base:f.Base < 18446744073709551616
  ack:f.Ack < 18446744073709551616
  safe:f.Safe < 18446744073709551616
  msgs:∀ m ∈ f.Msgs,m.length ≤ 1048576
  items:∀ x ∈ f.Items,x.M.length ≤ 1048576
  states:∀ s ∈ f.States,s.V.N < 18446744073709551616∧∀ x ∈ s.Items,x.M.length ≤ 1048576
def finC (f:GFrame) (ok fine:Bool) (r:List Nat × Bool):GFrame × Int :=
  if ok = true∧fine = true∧r.2 = false∧r.1 = []∧(f.Kind = 3 → f.States.length = 1)∧(f.Kind ≠ 1 → f.ID.N ≠ 0) then (f,0) else (zF,3)
def fr1 (F:Nat) (c p:GViewID):GFrame:=⟨1,F,⟨0,0⟩,0,c,p,[],0,[],[],0,0⟩
def fr2 (F:Nat) (i:GViewID) (s:Nat):GFrame:=⟨2,F,i,s,⟨0,0⟩,⟨0,0⟩,[],0,[],[],0,0⟩
def fr3 (F:Nat) (i:GViewID) (l:List GState):GFrame:=⟨3,F,i,0,⟨0,0⟩,⟨0,0⟩,l,0,[],[],0,0⟩
def fr4 (F:Nat) (i p:GViewID):GFrame:=⟨4,F,i,0,⟨0,0⟩,p,[],0,[],[],0,0⟩
def fr5 (F:Nat) (i:GViewID) (s:Nat) (l:List GState):GFrame:=⟨5,F,i,s,⟨0,0⟩,⟨0,0⟩,l,0,[],[],0,0⟩
def fr6 (F:Nat) (i:GViewID) (b a:Nat) (l:List (List Nat)):GFrame:=⟨6,F,i,0,⟨0,0⟩,⟨0,0⟩,[],b,l,[],a,0⟩
def fr7 (F:Nat) (i:GViewID) (b a s:Nat) (l:List GItem):GFrame:=⟨7,F,i,0,⟨0,0⟩,⟨0,0⟩,[],b,[],l,a,s⟩
def dec1 (F:Nat) (c:(GViewID × Bool) × List Nat × Bool) (p:(GViewID × Bool) × List Nat × Bool):GFrame × Int:=finC (fr1 F c.1.1 p.1.1) c.1.2 p.1.2 p.2
def decK (K F:Nat) (i:(GViewID × Bool) × List Nat × Bool):GFrame × Int :=
  if K = 2 then finC (fr2 F i.1.1 (rdI i.2.1 i.2.2 65535).1) i.1.2 true (rdI i.2.1 i.2.2 65535).2
  else if K = 3 then finC (fr3 F i.1.1 (statesC i.2.1 i.2.2).1.1) i.1.2 (statesC i.2.1 i.2.2).1.2 (statesC i.2.1 i.2.2).2
  else if K = 4 then finC (fr4 F i.1.1 (rdVC i.2.1 i.2.2).1.1) i.1.2 (rdVC i.2.1 i.2.2).1.2 (rdVC i.2.1 i.2.2).2
  else if K = 5 then finC (fr5 F i.1.1 (rdI i.2.1 i.2.2 65535).1 (statesC (rdI i.2.1 i.2.2 65535).2.1 (rdI i.2.1 i.2.2 65535).2.2).1.1) i.1.2 (statesC (rdI i.2.1 i.2.2 65535).2.1 (rdI i.2.1 i.2.2 65535).2.2).1.2 (statesC (rdI i.2.1 i.2.2 65535).2.1 (rdI i.2.1 i.2.2 65535).2.2).2
  else if K = 6 then finC (fr6 F i.1.1 (rseq rdU (rseq rdU rdMsgs) i.2.1 i.2.2).1.1 (rseq rdU (rseq rdU rdMsgs) i.2.1 i.2.2).1.2.1 (rseq rdU (rseq rdU rdMsgs) i.2.1 i.2.2).1.2.2) i.1.2 true (rseq rdU (rseq rdU rdMsgs) i.2.1 i.2.2).2
  else if K = 7 then finC (fr7 F i.1.1 (rseq rdU (rseq rdU (rseq rdU rdItems)) i.2.1 i.2.2).1.1 (rseq rdU (rseq rdU (rseq rdU rdItems)) i.2.1 i.2.2).1.2.1 (rseq rdU (rseq rdU (rseq rdU rdItems)) i.2.1 i.2.2).1.2.2.1 (rseq rdU (rseq rdU (rseq rdU rdItems)) i.2.1 i.2.2).1.2.2.2) i.1.2 true (rseq rdU (rseq rdU (rseq rdU rdItems)) i.2.1 i.2.2).2
  else (zF,3)
def decF (K:Nat) (f:Nat × List Nat × Bool):GFrame × Int:=if K = 1 then dec1 f.1 (rdVC f.2.1 f.2.2) (rdVC (rdVC f.2.1 f.2.2).2.1 (rdVC f.2.1 f.2.2).2.2) else decK K f.1 (rdVC f.2.1 f.2.2)
def decB (k:Nat × List Nat × Bool):GFrame × Int:=decF k.1 (rdI k.2.1 k.2.2 15)
def decP (p:List Nat):GFrame × Int:=decB (rdI p false 255)
section
variable {f:GFrame} {v w:GViewID} {r:List Nat}
theorem vc_cmp (h:VB v) (r:List Nat):rdVC (vidE v ++ r) false = ((v,true),r,false):=by
  have h1:rdV (vidE v ++ r) false = (v,r,false):=rdrV.cmp v r ⟨h.1,formVI_in h.2⟩
  unfold rdVC
  rw [h1,if_pos ⟨rfl,h.2⟩]
theorem statesC_cmp {l:List GState} (h:SsB l) (r:List Nat):statesC (statesE l ++ r) false = ((l,true),r,false):=by
  have h1:=rdrStates.cmp l r h
  have ha:=states_agree (statesE l ++ r) false
  obtain ⟨h2,h3⟩:=ha.2 (by rw [h1])
  have h4:=ha.1 ⟨h2,h3⟩
  rw [h1] at h4
  generalize statesC (statesE l ++ r) false = t at h2 h3 h4 ⊢
  obtain ⟨⟨a,b⟩,c,d⟩:=t
  have e:=triple.1 h4
  have e1:l = a:=e.1
  have e2:r = c:=e.2.1
  have e3:b = true:=h2
  have e4:d = false:=h3
  rw [e1,e2,e3,e4]
theorem head_cmp (hk:f.Kind < 128) (h0:0 ≤ f.From∧f.From < 16) (r:List Nat):rdI ([f.Kind,(f.From % 256).toNat] ++ r) false 255 = (f.Kind,[(f.From % 256).toNat] ++ r,false)∧rdI ([(f.From % 256).toNat] ++ r) false 15 = (f.From.toNat,r,false):=by
  constructor
  · have:=(rdrI 255 (by decide)).cmp f.Kind ([(f.From % 256).toNat] ++ r) ⟨by omega,by omega⟩
    rw [uenc_one hk] at this
    exact this
  · have:=(rdrI 15 (by decide)).cmp f.From.toNat r ⟨by omega,by omega⟩
    rw [uenc_one (show f.From.toNat < 128 by omega)] at this
    rw [show (f.From % 256).toNat = f.From.toNat by omega]
    exact this
theorem frame_is {K F S B A Sf:Nat} {i c p:GViewID} {st:List GState} {m:List (List Nat)} {it:List GItem} (h1:f.Kind = K) (h2:f.From = (F:Int)) (h3:f.ID = i) (h4:f.Set = S) (h5:f.Cur = c) (h6:f.Prom = p) (h7:f.States = st) (h8:f.Base = B) (h9:f.Msgs = m) (h10:f.Items = it) (h11:f.Ack = A) (h12:f.Safe = Sf):f = ⟨K,F,i,S,c,p,st,B,m,it,A,Sf⟩ :=
  frame_eq.2 ⟨h1,h2,h3,h4,h5,h6,h7,h8,h9,h10,h11,h12⟩
theorem nil_of {α:Type} {l:List α} (h:l.length = 0):l = []:=List.eq_nil_of_length_eq_zero h
theorem finC_yes {ok fine:Bool} {r:List Nat × Bool} (h1:ok = true) (h2:fine = true) (h3:r = ([],false)) (h4:f.Kind = 3 → f.States.length = 1) (h5:f.Kind ≠ 1 → f.ID.N ≠ 0):finC f ok fine r = (f,0):=if_pos ⟨h1,h2,by rw [h3],by rw [h3],h4,h5⟩
theorem decP_cmp (hf:formC f = true) (hb:FB f):decP (bodyE f) = (f,0):=by
  obtain ⟨h0,hbare,hbody⟩:=formC_all.1 hf
  have hall:=(body_iff hbare (by omega)).1 hbody
  obtain ⟨k1,k2,k3,k4,k5,k6,k7⟩:=hall
  obtain ⟨b1,b2,b3,b4,b5,b6,b7,b8⟩:=hbare
  have hh:=head_cmp (f:=f) (by omega) (by omega) (idE f ++ kindE f)
  unfold decP decB bodyE
  rw [List.append_assoc,hh.1]
  simp only []
  rw [hh.2]
  unfold decF
  have hF:f.From = ((f.From.toNat:Nat):Int):=by omega
  have hS:SsB f.States:=⟨k5,hb.states⟩
  have hI:IB_ f.Items:=⟨k6,hb.items⟩
  have hM:f.Msgs.length ≤ 4096∧∀ m ∈ f.Msgs,m.length ≤ 1048576:=⟨k7,hb.msgs⟩
  by_cases hk1:f.Kind = 1
  · rw [if_pos hk1]
    simp only []
    have he:idE f ++ kindE f = vidE f.Cur ++ (vidE f.Prom ++ []):=by unfold idE kindE; rw [if_pos hk1,if_pos hk1]; simp
    rw [he,vc_cmp ⟨hb.cur,k2⟩]
    simp only []
    rw [vc_cmp ⟨hb.prom,k3⟩]
    have hfr:f = fr1 f.From.toNat f.Cur f.Prom:=frame_is hk1 hF (vid0.2 (b1 hk1)) (b2 (by omega) (by omega)) rfl rfl (nil_of (b5 (by omega) (by omega))) (b6 (by omega) (by omega)).1 (nil_of (b7 (by omega))) (nil_of (b8 (by omega)).1) (b6 (by omega) (by omega)).2 (b8 (by omega)).2
    unfold dec1
    simp only []
    rw [← hfr]
    exact finC_yes rfl rfl rfl (fun h => by omega) (fun h => absurd hk1 h)
  · rw [if_neg hk1]
    obtain ⟨i1,i2⟩:=k1 hk1
    have hid:VB f.ID:=⟨hb.id,i1⟩
    have he:idE f ++ kindE f = vidE f.ID ++ kindE f:=by unfold idE; rw [if_neg hk1]
    rw [he,vc_cmp hid]
    simp only []
    have hn:f.Kind ≠ 1 → f.ID.N ≠ 0:=fun _ => i2
    unfold decK
    simp only []
    by_cases hk2:f.Kind = 2
    · have he2:kindE f = uenc f.Set ++ []:=by unfold kindE; rw [if_neg hk1,if_pos hk2]; simp
      rw [if_pos hk2,he2]
      have hc:rdI (uenc f.Set ++ []) false 65535 = (f.Set,[],false):=(rdrI 65535 (by decide)).cmp f.Set [] ⟨by have:=hb.set; omega,by have:=hb.set; omega⟩
      rw [hc]
      simp only []
      have hfr:f = fr2 f.From.toNat f.ID f.Set:=frame_is hk2 hF rfl rfl (vid0.2 (b3 hk1)) (vid0.2 (b4 hk1 (by omega))) (nil_of (b5 (by omega) (by omega))) (b6 (by omega) (by omega)).1 (nil_of (b7 (by omega))) (nil_of (b8 (by omega)).1) (b6 (by omega) (by omega)).2 (b8 (by omega)).2
      rw [← hfr]
      exact finC_yes rfl rfl rfl k4 hn
    · rw [if_neg hk2]
      by_cases hk3:f.Kind = 3
      · have he2:kindE f = statesE f.States ++ []:=by unfold kindE; rw [if_neg hk1,if_neg hk2,if_pos hk3]; simp
        rw [if_pos hk3,he2,statesC_cmp hS]
        simp only []
        have hfr:f = fr3 f.From.toNat f.ID f.States:=frame_is hk3 hF rfl (b2 (by omega) (by omega)) (vid0.2 (b3 hk1)) (vid0.2 (b4 hk1 (by omega))) rfl (b6 (by omega) (by omega)).1 (nil_of (b7 (by omega))) (nil_of (b8 (by omega)).1) (b6 (by omega) (by omega)).2 (b8 (by omega)).2
        rw [← hfr]
        exact finC_yes rfl rfl rfl k4 hn
      · rw [if_neg hk3]
        by_cases hk4:f.Kind = 4
        · have he2:kindE f = vidE f.Prom ++ []:=by unfold kindE; rw [if_neg hk1,if_neg hk2,if_neg hk3,if_pos hk4]; simp
          rw [if_pos hk4,he2,vc_cmp ⟨hb.prom,k3⟩]
          simp only []
          have hfr:f = fr4 f.From.toNat f.ID f.Prom:=frame_is hk4 hF rfl (b2 (by omega) (by omega)) (vid0.2 (b3 hk1)) rfl (nil_of (b5 (by omega) (by omega))) (b6 (by omega) (by omega)).1 (nil_of (b7 (by omega))) (nil_of (b8 (by omega)).1) (b6 (by omega) (by omega)).2 (b8 (by omega)).2
          rw [← hfr]
          exact finC_yes rfl rfl rfl k4 hn
        · rw [if_neg hk4]
          by_cases hk5:f.Kind = 5
          · have he2:kindE f = uenc f.Set ++ (statesE f.States ++ []):=by unfold kindE; rw [if_neg hk1,if_neg hk2,if_neg hk3,if_neg hk4,if_pos hk5]; simp
            rw [if_pos hk5,he2]
            have hc:∀ r,rdI (uenc f.Set ++ r) false 65535 = (f.Set,r,false):=fun r => (rdrI 65535 (by decide)).cmp f.Set r ⟨by have:=hb.set; omega,by have:=hb.set; omega⟩
            rw [hc]
            simp only []
            rw [statesC_cmp hS]
            simp only []
            have hfr:f = fr5 f.From.toNat f.ID f.Set f.States:=frame_is hk5 hF rfl rfl (vid0.2 (b3 hk1)) (vid0.2 (b4 hk1 (by omega))) rfl (b6 (by omega) (by omega)).1 (nil_of (b7 (by omega))) (nil_of (b8 (by omega)).1) (b6 (by omega) (by omega)).2 (b8 (by omega)).2
            rw [← hfr]
            exact finC_yes rfl rfl rfl k4 hn
          · rw [if_neg hk5]
            by_cases hk6:f.Kind = 6
            · have he2:kindE f = (uenc f.Base ++ (uenc f.Ack ++ msgsE f.Msgs)) ++ []:=by unfold kindE; rw [if_neg hk1,if_neg hk2,if_neg hk3,if_neg hk4,if_neg hk5,if_pos hk6]; simp
              rw [if_pos hk6,he2]
              have hc:=(rdrU.seq (rdrU.seq rdrMsgs)).cmp (f.Base,f.Ack,f.Msgs) [] ⟨hb.base,hb.ack,hM⟩
              simp only [] at hc
              rw [hc]
              simp only []
              have hfr:f = fr6 f.From.toNat f.ID f.Base f.Ack f.Msgs:=frame_is hk6 hF rfl (b2 (by omega) (by omega)) (vid0.2 (b3 hk1)) (vid0.2 (b4 hk1 (by omega))) (nil_of (b5 (by omega) (by omega))) rfl rfl (nil_of (b8 (by omega)).1) rfl (b8 (by omega)).2
              rw [← hfr]
              exact finC_yes rfl rfl rfl k4 hn
            · have hk7:f.Kind = 7:=by omega
              have he2:kindE f = (uenc f.Base ++ (uenc f.Ack ++ (uenc f.Safe ++ itemsE f.Items))) ++ []:=by unfold kindE; rw [if_neg hk1,if_neg hk2,if_neg hk3,if_neg hk4,if_neg hk5,if_neg hk6]; simp
              rw [if_neg hk6,if_pos hk7,he2]
              have hc:=(rdrU.seq (rdrU.seq (rdrU.seq rdrItems))).cmp (f.Base,f.Ack,f.Safe,f.Items) [] ⟨hb.base,hb.ack,hb.safe,hI⟩
              simp only [] at hc
              rw [hc]
              simp only []
              have hfr:f = fr7 f.From.toNat f.ID f.Base f.Ack f.Safe f.Items:=frame_is hk7 hF rfl (b2 (by omega) (by omega)) (vid0.2 (b3 hk1)) (vid0.2 (b4 hk1 (by omega))) (nil_of (b5 (by omega) (by omega))) rfl (nil_of (b7 (by omega))) rfl rfl rfl
              rw [← hfr]
              exact finC_yes rfl rfl rfl k4 hn
end
end Go.FM

set_option linter.unusedVariables false
set_option linter.unusedSimpArgs false
namespace Go.FM
open Go
section
variable {p bs:List Nat} {b:Bool}
theorem vc_snd (hs:Small bs) (h:(rdVC bs b).1.2 = true):b = false∧VB (rdVC bs b).1.1∧bs = vidE (rdVC bs b).1.1 ++ (rdVC bs b).2.1∧Small (rdVC bs b).2.1∧(rdVC bs b).2.2 = false:=by
  have hb:(rdVC bs b).2.2 = false:=by
    unfold rdVC at h ⊢
    split at h
    · rename_i hc; exact hc.1
    · cases h
  have hu:=(vc_agree bs b).1 ⟨h,hb⟩
  have h0:b = false:=rdrVok.ok (by rw [hu])
  rw [h0] at hu hb ⊢
  obtain ⟨k1,k2⟩:=rdrVok.snd bs _ _ hs hu
  exact ⟨rfl,k1,k2,by have:=rdrVok.sm bs false hs; rw [hu] at this; exact this,hb⟩
theorem statesC_snd (hs:Small bs) (h:(statesC bs b).1.2 = true) (hb:(statesC bs b).2.2 = false):b = false∧SsB (statesC bs b).1.1∧bs = statesE (statesC bs b).1.1 ++ (statesC bs b).2.1:=by
  have hu:=(states_agree bs b).1 ⟨h,hb⟩
  have h0:b = false:=rdrStates.ok (by rw [hu])
  rw [h0] at hu ⊢
  exact ⟨rfl,rdrStates.snd bs _ _ hs hu⟩
theorem rd_snd {α:Type} {R:Rd_ α} {E:α → List Nat} {G:α → Prop} (h:Rdr R E G) (hs:Small bs) (hb:(R bs b).2.2 = false):b = false∧G (R bs b).1∧bs = E (R bs b).1 ++ (R bs b).2.1∧Small (R bs b).2.1:=by
  have h0:=h.ok hb
  rw [h0] at hb ⊢
  obtain ⟨k1,k2⟩:=h.snd bs (R bs false).1 (R bs false).2.1 hs (triple.2 ⟨rfl,rfl,hb⟩)
  exact ⟨rfl,k1,k2,h.sm _ _ hs⟩
theorem finC_or (f:GFrame) (ok fine:Bool) (r:List Nat × Bool):finC f ok fine r = (zF,3) ∨ (finC f ok fine r = (f,0)∧ok = true∧fine = true∧r.2 = false∧r.1 = []∧(f.Kind = 3 → f.States.length = 1)∧(f.Kind ≠ 1 → f.ID.N ≠ 0)):=by
  unfold finC
  split
  · rename_i h; exact .inr ⟨rfl,h⟩
  · exact .inl rfl
def Reads (p:List Nat):Prop:=∃ g,decP p = (g,0)∧formC g = true∧FB g∧bodyE g = p
theorem head_snd {K:Nat} {rest:List Nat} (hs:Small p) (hk:(rdI p false 255).1 = K) (hK:K < 128) (hb:(rdI (rdI p false 255).2.1 (rdI p false 255).2.2 15).2.2 = false) :
    p = [K,(rdI (rdI p false 255).2.1 (rdI p false 255).2.2 15).1] ++ (rdI (rdI p false 255).2.1 (rdI p false 255).2.2 15).2.1∧(rdI (rdI p false 255).2.1 (rdI p false 255).2.2 15).1 ≤ 15∧Small (rdI (rdI p false 255).2.1 (rdI p false 255).2.2 15).2.1:=by
  have hb1:=rdI_ok hb
  obtain ⟨_,_,e1,s1⟩:=rd_snd (rdrI 255 (by decide)) hs hb1
  obtain ⟨_,g2,e2,s2⟩:=rd_snd (rdrI 15 (by decide)) (b:=(rdI p false 255).2.2) s1 hb
  have g2:((rdI (rdI p false 255).2.1 (rdI p false 255).2.2 15).1:Int) ≤ 15∧_:=g2
  have e1:p = uenc (rdI p false 255).1 ++ (rdI p false 255).2.1:=e1
  have e2:(rdI p false 255).2.1 = uenc (rdI (rdI p false 255).2.1 (rdI p false 255).2.2 15).1 ++ (rdI (rdI p false 255).2.1 (rdI p false 255).2.2 15).2.1:=e2
  refine ⟨?_,by omega,s2⟩
  rw [hk,uenc_one hK] at e1
  rw [uenc_one (by omega)] at e2
  exact e1.trans (congrArg (fun z => K::z) e2)
end
theorem fr_body {p h t:List Nat} {K F:Nat} {f:GFrame} (hp:p = [K,F] ++ t) (hF:F ≤ 15) (hk:f.Kind = K) (hf:f.From = (F:Int)) (ht:idE f ++ kindE f = t):bodyE f = p:=by
  unfold bodyE
  rw [hp,hk,hf,show ((F:Int) % 256).toNat = F by omega,List.append_assoc,ht]
theorem fb0 {K F S B A Sf:Nat} {i c pr:GViewID} {st:List GState} {m:List (List Nat)} {it:List GItem} (hi:i.N < 18446744073709551616) (hc:c.N < 18446744073709551616) (hp:pr.N < 18446744073709551616) (hS:S < 65536) (hB:B < 18446744073709551616) (hA:A < 18446744073709551616) (hSf:Sf < 18446744073709551616)
    (hst:∀ s ∈ st,s.V.N < 18446744073709551616∧∀ x ∈ s.Items,x.M.length ≤ 1048576) (hm:∀ x ∈ m,x.length ≤ 1048576) (hit:∀ x ∈ it,x.M.length ≤ 1048576):FB ⟨K,(F:Int),i,S,c,pr,st,B,m,it,A,Sf⟩:=⟨hi,hc,hp,hS,hB,hA,hSf,hm,hit,hst⟩
theorem nomem {α:Type} {P:α → Prop}:∀ x ∈ ([]:List α),P x:=fun x hx => absurd hx List.not_mem_nil
theorem decP_snd {p:List Nat} (hs:Small p):decP p = (zF,3) ∨ Reads p:=by
  unfold Reads
  have hdef:decP p = decF (rdI p false 255).1 (rdI (rdI p false 255).2.1 (rdI p false 255).2.2 15):=rfl
  have hd:=head_snd (K:=(rdI p false 255).1) (rest:=[]) hs rfl
  generalize hK:(rdI p false 255).1 = K at hdef hd
  generalize hf:rdI (rdI p false 255).2.1 (rdI p false 255).2.2 15 = f at hdef hd
  rw [hdef]
  unfold decF
  by_cases hk1:K = 1
  · rw [if_pos hk1]
    unfold dec1
    rcases finC_or (fr1 f.1 (rdVC f.2.1 f.2.2).1.1 (rdVC (rdVC f.2.1 f.2.2).2.1 (rdVC f.2.1 f.2.2).2.2).1.1) (rdVC f.2.1 f.2.2).1.2 (rdVC (rdVC f.2.1 f.2.2).2.1 (rdVC f.2.1 f.2.2).2.2).1.2 (rdVC (rdVC f.2.1 f.2.2).2.1 (rdVC f.2.1 f.2.2).2.2).2 with h | ⟨h,o1,o2,o3,o4,o5,o6⟩
    · exact .inl h
    · refine .inr ⟨_,h,?_⟩
      have hfb:f.2.2 = false:=by
        cases hq:f.2.2 with
        | false => rfl
        | true => rw [hq] at o1; unfold rdVC at o1; rw [if_neg (by rw [rdrV.bad]; simp)] at o1; cases o1
      obtain ⟨e1,g1,s1⟩:=hd (by omega) hfb
      obtain ⟨_,v1,e2,s2,_⟩:=vc_snd s1 o1
      obtain ⟨_,v2,e3,_,_⟩:=vc_snd s2 o2
      rw [o4,List.append_nil] at e3
      refine ⟨formC_all.2 ⟨?_,⟨fun _ => ⟨rfl,rfl⟩,fun h2 h5 => rfl,fun h1 => absurd rfl h1,fun h1 h4 => absurd rfl h1,fun h3 h5 => rfl,fun h6 h7 => ⟨rfl,rfl⟩,fun h6 => rfl,fun h7 => ⟨rfl,rfl⟩⟩,?_⟩,fb0 (by decide) v1.1 v2.1 (by decide) (by decide) (by decide) (by decide) nomem nomem nomem,?_⟩
      · show 0 ≤ (f.1:Int)∧(f.1:Int) < 16∧1 ≤ 1∧1 ≤ 7; omega
      · show (idOk (fr1 _ _ _) && frKindOk (fr1 _ _ _)) = true
        show (true && (formVI (rdVC f.2.1 f.2.2).1.1 && formVI (rdVC (rdVC f.2.1 f.2.2).2.1 (rdVC f.2.1 f.2.2).2.2).1.1)) = true
        rw [v1.2,v2.2]; rfl
      · exact fr_body (h:=[]) (K:=1) (F:=f.1) (by rw [← hk1]; exact e1) g1 rfl rfl (e2.trans (congrArg (fun z => vidE (rdVC f.2.1 f.2.2).1.1 ++ z) e3)).symm
  · rw [if_neg hk1]
    have hidb:∀ (X:GFrame) (fine:Bool) (r:List Nat × Bool),finC X (rdVC f.2.1 f.2.2).1.2 fine r = (zF,3) ∨ (K ≤ 7 → (p = [K,f.1] ++ (vidE (rdVC f.2.1 f.2.2).1.1 ++ (rdVC f.2.1 f.2.2).2.1)∧f.1 ≤ 15∧VB (rdVC f.2.1 f.2.2).1.1∧Small (rdVC f.2.1 f.2.2).2.1∧(rdVC f.2.1 f.2.2).2.2 = false)):=by
      intro X fine r
      rcases finC_or X (rdVC f.2.1 f.2.2).1.2 fine r with h | ⟨h,o1,_⟩
      · exact .inl h
      · refine .inr fun h7 => ?_
        have hfb:f.2.2 = false:=by
          cases hq:f.2.2 with
          | false => rfl
          | true => rw [hq] at o1; unfold rdVC at o1; rw [if_neg (by rw [rdrV.bad]; simp)] at o1; cases o1
        obtain ⟨e1,g1,s1⟩:=hd (by omega) hfb
        obtain ⟨_,v1,e2,s2,b2⟩:=vc_snd s1 o1
        rw [← e2]
        exact ⟨e1,g1,v1,s2,b2⟩
    generalize hi:rdVC f.2.1 f.2.2 = i at hidb ⊢
    have bare:∀ {X:GFrame},BareP X → 0 ≤ X.From∧X.From < 16∧1 ≤ X.Kind∧X.Kind ≤ 7 → bodyOk X = true → formC X = true:=fun h1 h2 h3 => formC_all.2 ⟨h2,h1,h3⟩
    have ok1:∀ {X:GFrame},X.Kind ≠ 1 → formVI X.ID = true → X.ID.N ≠ 0 → frKindOk X = true → bodyOk X = true:=fun h1 h2 h3 h4 => by
      unfold bodyOk idOk; rw [if_neg h1,h2,decide_eq_true h3,h4]; rfl
    unfold decK
    by_cases hk2:K = 2
    · rw [if_pos hk2]
      rcases hidb (fr2 f.1 i.1.1 (rdI i.2.1 i.2.2 65535).1) true (rdI i.2.1 i.2.2 65535).2 with h | h7
      · exact .inl h
      rcases finC_or (fr2 f.1 i.1.1 (rdI i.2.1 i.2.2 65535).1) i.1.2 true (rdI i.2.1 i.2.2 65535).2 with h | ⟨h,o1,o2,o3,o4,o5,o6⟩
      · exact .inl h
      obtain ⟨e1,g1,v1,s1,b1⟩:=h7 (by omega)
      obtain ⟨_,g2,e2,_⟩:=rd_snd (rdrI 65535 (by decide)) s1 o3
      have g2:((rdI i.2.1 i.2.2 65535).1:Int) ≤ 65535∧_:=g2
      have e2:i.2.1 = uenc (rdI i.2.1 i.2.2 65535).1 ++ (rdI i.2.1 i.2.2 65535).2.1:=e2
      rw [o4,List.append_nil] at e2
      refine .inr ⟨_,h,bare ⟨fun h => absurd h (by decide:¬ (2:Nat) = 1),fun h2 h5 => absurd rfl h2,fun _ => ⟨rfl,rfl⟩,fun _ _ => ⟨rfl,rfl⟩,fun _ _ => rfl,fun _ _ => ⟨rfl,rfl⟩,fun _ => rfl,fun _ => ⟨rfl,rfl⟩⟩ ?_ (ok1 (show (2:Nat) ≠ 1 by decide) v1.2 (o6 (show (2:Nat) ≠ 1 by decide)) rfl),fb0 v1.1 (by decide) (by decide) (by omega) (by decide) (by decide) (by decide) nomem nomem nomem,?_⟩
      · show 0 ≤ (f.1:Int)∧(f.1:Int) < 16∧1 ≤ 2∧2 ≤ 7; omega
      · exact fr_body (h:=[]) (K:=2) (F:=f.1) (by rw [← hk2]; exact e1) g1 rfl rfl (congrArg (fun z => vidE i.1.1 ++ z) e2.symm)
    · rw [if_neg hk2]
      by_cases hk3:K = 3
      · rw [if_pos hk3]
        rcases hidb (fr3 f.1 i.1.1 (statesC i.2.1 i.2.2).1.1) (statesC i.2.1 i.2.2).1.2 (statesC i.2.1 i.2.2).2 with h | h7
        · exact .inl h
        rcases finC_or (fr3 f.1 i.1.1 (statesC i.2.1 i.2.2).1.1) i.1.2 (statesC i.2.1 i.2.2).1.2 (statesC i.2.1 i.2.2).2 with h | ⟨h,o1,o2,o3,o4,o5,o6⟩
        · exact .inl h
        obtain ⟨e1,g1,v1,s1,b1⟩:=h7 (by omega)
        obtain ⟨_,g2,e2⟩:=statesC_snd s1 o2 o3
        rw [o4,List.append_nil] at e2
        have o5:(statesC i.2.1 i.2.2).1.1.length = 1:=o5 rfl
        refine .inr ⟨_,h,bare ⟨fun h => absurd h (by decide:¬ (3:Nat) = 1),fun h2 h5 => rfl,fun _ => ⟨rfl,rfl⟩,fun _ _ => ⟨rfl,rfl⟩,fun h3 _ => absurd rfl h3,fun _ _ => ⟨rfl,rfl⟩,fun _ => rfl,fun _ => ⟨rfl,rfl⟩⟩ ?_ (ok1 (show (3:Nat) ≠ 1 by decide) v1.2 (o6 (show (3:Nat) ≠ 1 by decide)) ?_),fb0 v1.1 (by decide) (by decide) (by decide) (by decide) (by decide) (by decide) g2.2 nomem nomem,?_⟩
        · show 0 ≤ (f.1:Int)∧(f.1:Int) < 16∧1 ≤ 3∧3 ≤ 7; omega
        · show (decide ((statesC i.2.1 i.2.2).1.1.length = 1) && okStates (statesC i.2.1 i.2.2).1.1) = true; rw [decide_eq_true o5,g2.1]; rfl
        · exact fr_body (h:=[]) (K:=3) (F:=f.1) (by rw [← hk3]; exact e1) g1 rfl rfl (congrArg (fun z => vidE i.1.1 ++ z) e2.symm)
      · rw [if_neg hk3]
        by_cases hk4:K = 4
        · rw [if_pos hk4]
          rcases hidb (fr4 f.1 i.1.1 (rdVC i.2.1 i.2.2).1.1) (rdVC i.2.1 i.2.2).1.2 (rdVC i.2.1 i.2.2).2 with h | h7
          · exact .inl h
          rcases finC_or (fr4 f.1 i.1.1 (rdVC i.2.1 i.2.2).1.1) i.1.2 (rdVC i.2.1 i.2.2).1.2 (rdVC i.2.1 i.2.2).2 with h | ⟨h,o1,o2,o3,o4,o5,o6⟩
          · exact .inl h
          obtain ⟨e1,g1,v1,s1,b1⟩:=h7 (by omega)
          obtain ⟨_,v2,e2,_,_⟩:=vc_snd s1 o2
          rw [o4,List.append_nil] at e2
          refine .inr ⟨_,h,bare ⟨fun h => absurd h (by decide:¬ (4:Nat) = 1),fun h2 h5 => rfl,fun _ => ⟨rfl,rfl⟩,fun _ h4 => absurd rfl h4,fun _ _ => rfl,fun _ _ => ⟨rfl,rfl⟩,fun _ => rfl,fun _ => ⟨rfl,rfl⟩⟩ ?_ (ok1 (show (4:Nat) ≠ 1 by decide) v1.2 (o6 (show (4:Nat) ≠ 1 by decide)) v2.2),fb0 v1.1 (by decide) v2.1 (by decide) (by decide) (by decide) (by decide) nomem nomem nomem,?_⟩
          · show 0 ≤ (f.1:Int)∧(f.1:Int) < 16∧1 ≤ 4∧4 ≤ 7; omega
          · exact fr_body (h:=[]) (K:=4) (F:=f.1) (by rw [← hk4]; exact e1) g1 rfl rfl (congrArg (fun z => vidE i.1.1 ++ z) e2.symm)
        · rw [if_neg hk4]
          by_cases hk5:K = 5
          · rw [if_pos hk5]
            rcases hidb (fr5 f.1 i.1.1 (rdI i.2.1 i.2.2 65535).1 (statesC (rdI i.2.1 i.2.2 65535).2.1 (rdI i.2.1 i.2.2 65535).2.2).1.1) (statesC (rdI i.2.1 i.2.2 65535).2.1 (rdI i.2.1 i.2.2 65535).2.2).1.2 (statesC (rdI i.2.1 i.2.2 65535).2.1 (rdI i.2.1 i.2.2 65535).2.2).2 with h | h7
            · exact .inl h
            rcases finC_or (fr5 f.1 i.1.1 (rdI i.2.1 i.2.2 65535).1 (statesC (rdI i.2.1 i.2.2 65535).2.1 (rdI i.2.1 i.2.2 65535).2.2).1.1) i.1.2 (statesC (rdI i.2.1 i.2.2 65535).2.1 (rdI i.2.1 i.2.2 65535).2.2).1.2 (statesC (rdI i.2.1 i.2.2 65535).2.1 (rdI i.2.1 i.2.2 65535).2.2).2 with h | ⟨h,o1,o2,o3,o4,o5,o6⟩
            · exact .inl h
            obtain ⟨e1,g1,v1,s1,b1⟩:=h7 (by omega)
            have hb9:(rdI i.2.1 i.2.2 65535).2.2 = false:=by
              have:=(states_agree (rdI i.2.1 i.2.2 65535).2.1 (rdI i.2.1 i.2.2 65535).2.2).1 ⟨o2,o3⟩
              exact rdrStates.ok (by rw [this])
            obtain ⟨_,g2,e2,s2⟩:=rd_snd (rdrI 65535 (by decide)) s1 hb9
            have g2:((rdI i.2.1 i.2.2 65535).1:Int) ≤ 65535∧_:=g2
            have e2:i.2.1 = uenc (rdI i.2.1 i.2.2 65535).1 ++ (rdI i.2.1 i.2.2 65535).2.1:=e2
            obtain ⟨_,g3,e3⟩:=statesC_snd s2 o2 o3
            have e3:(rdI i.2.1 i.2.2 65535).2.1 = statesE _ ++ _:=e3
            rw [o4,List.append_nil] at e3
            refine .inr ⟨_,h,bare ⟨fun h => absurd h (by decide:¬ (5:Nat) = 1),fun _ h5 => absurd rfl h5,fun _ => ⟨rfl,rfl⟩,fun _ _ => ⟨rfl,rfl⟩,fun _ h5 => absurd rfl h5,fun _ _ => ⟨rfl,rfl⟩,fun _ => rfl,fun _ => ⟨rfl,rfl⟩⟩ ?_ (ok1 (show (5:Nat) ≠ 1 by decide) v1.2 (o6 (show (5:Nat) ≠ 1 by decide)) g3.1),fb0 v1.1 (by decide) (by decide) (by omega) (by decide) (by decide) (by decide) g3.2 nomem nomem,?_⟩
            · show 0 ≤ (f.1:Int)∧(f.1:Int) < 16∧1 ≤ 5∧5 ≤ 7; omega
            · exact fr_body (h:=[]) (K:=5) (F:=f.1) (by rw [← hk5]; exact e1) g1 rfl rfl (congrArg (fun z => vidE i.1.1 ++ z) (e2.trans (congrArg (fun z => uenc (rdI i.2.1 i.2.2 65535).1 ++ z) e3)).symm)
          · rw [if_neg hk5]
            by_cases hk6:K = 6
            · rw [if_pos hk6]
              generalize hq:rseq rdU (rseq rdU rdMsgs) i.2.1 i.2.2 = q
              rcases hidb (fr6 f.1 i.1.1 q.1.1 q.1.2.1 q.1.2.2) true q.2 with h | h7
              · exact .inl h
              rcases finC_or (fr6 f.1 i.1.1 q.1.1 q.1.2.1 q.1.2.2) i.1.2 true q.2 with h | ⟨h,o1,o2,o3,o4,o5,o6⟩
              · exact .inl h
              obtain ⟨e1,g1,v1,s1,b1⟩:=h7 (by omega)
              obtain ⟨_,g2,e2,_⟩:=rd_snd (rdrU.seq (rdrU.seq rdrMsgs)) (b:=i.2.2) s1 (by rw [hq]; exact o3)
              rw [hq] at g2 e2
              rw [o4,List.append_nil] at e2
              refine .inr ⟨_,h,bare ⟨fun h => absurd h (by decide:¬ (6:Nat) = 1),fun _ _ => rfl,fun _ => ⟨rfl,rfl⟩,fun _ _ => ⟨rfl,rfl⟩,fun _ _ => rfl,fun h6 _ => absurd rfl h6,fun h6 => absurd rfl h6,fun _ => ⟨rfl,rfl⟩⟩ ?_ (ok1 (show (6:Nat) ≠ 1 by decide) v1.2 (o6 (show (6:Nat) ≠ 1 by decide)) (decide_eq_true g2.2.2.1)),fb0 v1.1 (by decide) (by decide) (by decide) g2.1 g2.2.1 (by decide) nomem g2.2.2.2 nomem,?_⟩
              · show 0 ≤ (f.1:Int)∧(f.1:Int) < 16∧1 ≤ 6∧6 ≤ 7; omega
              · exact fr_body (h:=[]) (K:=6) (F:=f.1) (by rw [← hk6]; exact e1) g1 rfl rfl (congrArg (fun z => vidE i.1.1 ++ z) ((List.append_assoc (uenc q.1.1) (uenc q.1.2.1) (msgsE q.1.2.2)).trans e2.symm))
            · rw [if_neg hk6]
              by_cases hk7:K = 7
              · rw [if_pos hk7]
                generalize hq:rseq rdU (rseq rdU (rseq rdU rdItems)) i.2.1 i.2.2 = q
                rcases hidb (fr7 f.1 i.1.1 q.1.1 q.1.2.1 q.1.2.2.1 q.1.2.2.2) true q.2 with h | h7
                · exact .inl h
                rcases finC_or (fr7 f.1 i.1.1 q.1.1 q.1.2.1 q.1.2.2.1 q.1.2.2.2) i.1.2 true q.2 with h | ⟨h,o1,o2,o3,o4,o5,o6⟩
                · exact .inl h
                obtain ⟨e1,g1,v1,s1,b1⟩:=h7 (by omega)
                obtain ⟨_,g2,e2,_⟩:=rd_snd (rdrU.seq (rdrU.seq (rdrU.seq rdrItems))) (b:=i.2.2) s1 (by rw [hq]; exact o3)
                rw [hq] at g2 e2
                rw [o4,List.append_nil] at e2
                refine .inr ⟨_,h,bare ⟨fun h => absurd h (by decide:¬ (7:Nat) = 1),fun _ _ => rfl,fun _ => ⟨rfl,rfl⟩,fun _ _ => ⟨rfl,rfl⟩,fun _ _ => rfl,fun _ h7 => absurd rfl h7,fun _ => rfl,fun h7 => absurd rfl h7⟩ ?_ (ok1 (show (7:Nat) ≠ 1 by decide) v1.2 (o6 (show (7:Nat) ≠ 1 by decide)) g2.2.2.2.1),fb0 v1.1 (by decide) (by decide) (by decide) g2.1 g2.2.1 g2.2.2.1 nomem nomem g2.2.2.2.2,?_⟩
                · show 0 ≤ (f.1:Int)∧(f.1:Int) < 16∧1 ≤ 7∧7 ≤ 7; omega
                · exact fr_body (h:=[]) (K:=7) (F:=f.1) (by rw [← hk7]; exact e1) g1 rfl rfl (congrArg (fun z => vidE i.1.1 ++ z) ((show uenc q.1.1 ++ uenc q.1.2.1 ++ uenc q.1.2.2.1 ++ itemsE q.1.2.2.2 = uenc q.1.1 ++ (uenc q.1.2.1 ++ (uenc q.1.2.2.1 ++ itemsE q.1.2.2.2)) from by simp [List.append_assoc]).trans e2.symm))
              · rw [if_neg hk7]; exact .inl rfl
end Go.FM

set_option linter.unusedVariables false
set_option linter.unusedSimpArgs false
namespace Go.FM
open Go
theorem body_inj {f g:GFrame} (hf:formC f = true) (hg:formC g = true) (bf:FB f) (bg:FB g) (h:bodyE f = bodyE g):f = g:=by
  have h1:=decP_cmp hf bf
  have h2:=decP_cmp hg bg
  rw [h,h2] at h1
  injection h1 with h1 _
  exact h1.symm
def decA (b:List Nat):GFrame × Int:=if 1048576 < b.length then (zF,2) else if (openL b).2 = 0 then decP (openL b).1 else (zF,(openL b).2)
def refF (b p:List Nat) (f:GFrame) (rest:List Nat) (bad:Bool):GFrame × Int:=if bad = false∧rest = []∧formC f = true∧seal_ (bodyE f) = b then (f,0) else (zF,3)
theorem decA_long {b:List Nat} (h:1048576 < b.length):decA b = (zF,2):=if_pos h
theorem decA_open {b:List Nat} (h:¬ 1048576 < b.length) (h2:(openL b).2 ≠ 0):decA b = (zF,(openL b).2):=by unfold decA; rw [if_neg h,if_neg h2]
theorem decA_read {b:List Nat} (h:¬ 1048576 < b.length) (h2:(openL b).2 = 0):decA b = decP (openL b).1:=by unfold decA; rw [if_neg h,if_pos h2]
theorem open_is {b:List Nat} (h:(openL b).2 = 0):b = seal_ (openL b).1:=by
  unfold openL at h ⊢
  split at h
  · exact absurd h (by decide:¬ (3:Int) = 0)
  · rename_i hl
    split at h
    · rename_i hs
      rw [if_neg hl,if_pos hs]; exact hs
    · exact absurd h (by decide:¬ (5:Int) = 0)
def rdK (K F:Nat) (i:GViewID × List Nat × Bool):GFrame × List Nat × Bool :=
  if K = 2 then (fr2 F i.1 (rdI i.2.1 i.2.2 65535).1,(rdI i.2.1 i.2.2 65535).2)
  else if K = 3 then (fr3 F i.1 (rcount rdStR 4096 i.2.1 i.2.2).1,(rcount rdStR 4096 i.2.1 i.2.2).2)
  else if K = 4 then (fr4 F i.1 (rdVok i.2.1 i.2.2).1,(rdVok i.2.1 i.2.2).2)
  else if K = 5 then (fr5 F i.1 (rdI i.2.1 i.2.2 65535).1 (rcount rdStR 4096 (rdI i.2.1 i.2.2 65535).2.1 (rdI i.2.1 i.2.2 65535).2.2).1,(rcount rdStR 4096 (rdI i.2.1 i.2.2 65535).2.1 (rdI i.2.1 i.2.2 65535).2.2).2)
  else if K = 6 then (fr6 F i.1 (rseq rdU (rseq rdU rdMsgs) i.2.1 i.2.2).1.1 (rseq rdU (rseq rdU rdMsgs) i.2.1 i.2.2).1.2.1 (rseq rdU (rseq rdU rdMsgs) i.2.1 i.2.2).1.2.2,(rseq rdU (rseq rdU rdMsgs) i.2.1 i.2.2).2)
  else if K = 7 then (fr7 F i.1 (rseq rdU (rseq rdU (rseq rdU rdItems)) i.2.1 i.2.2).1.1 (rseq rdU (rseq rdU (rseq rdU rdItems)) i.2.1 i.2.2).1.2.1 (rseq rdU (rseq rdU (rseq rdU rdItems)) i.2.1 i.2.2).1.2.2.1 (rseq rdU (rseq rdU (rseq rdU rdItems)) i.2.1 i.2.2).1.2.2.2,(rseq rdU (rseq rdU (rseq rdU rdItems)) i.2.1 i.2.2).2)
  else (⟨K,F,i.1,0,⟨0,0⟩,⟨0,0⟩,[],0,[],[],0,0⟩,i.2)
def rdF (K:Nat) (f:Nat × List Nat × Bool):GFrame × List Nat × Bool:=if K = 1 then (fr1 f.1 (rdVok f.2.1 f.2.2).1 (rdVok (rdVok f.2.1 f.2.2).2.1 (rdVok f.2.1 f.2.2).2.2).1,(rdVok (rdVok f.2.1 f.2.2).2.1 (rdVok f.2.1 f.2.2).2.2).2) else rdK K f.1 (rdVok f.2.1 f.2.2)
def rdP (p:List Nat):GFrame × List Nat × Bool:=rdF (rdI p false 7).1 (rdI (rdI p false 7).2.1 (rdI p false 7).2.2 15)
theorem rdP_cmp {f:GFrame} (hf:formC f = true) (hb:FB f):rdP (bodyE f) = (f,[],false):=by
  obtain ⟨h0,hbare,hbody⟩:=formC_all.1 hf
  obtain ⟨k1,k2,k3,k4,k5,k6,k7⟩:=(body_iff hbare (by omega)).1 hbody
  obtain ⟨b1,b2,b3,b4,b5,b6,b7,b8⟩:=hbare
  have hh:=(head_cmp (f:=f) (by omega) (by omega) (idE f ++ kindE f)).2
  have hh1:rdI ([f.Kind,(f.From % 256).toNat] ++ (idE f ++ kindE f)) false 7 = (f.Kind,[(f.From % 256).toNat] ++ (idE f ++ kindE f),false):=by
    have:=(rdrI 7 (by decide)).cmp f.Kind ([(f.From % 256).toNat] ++ (idE f ++ kindE f)) ⟨by omega,by omega⟩
    rw [uenc_one (by omega)] at this
    exact this
  unfold rdP bodyE
  rw [List.append_assoc,hh1]
  simp only []
  rw [hh]
  unfold rdF
  have hF:f.From = ((f.From.toNat:Nat):Int):=by omega
  have hS:SsB f.States:=⟨k5,hb.states⟩
  have hI:IB_ f.Items:=⟨k6,hb.items⟩
  have hM:f.Msgs.length ≤ 4096∧∀ m ∈ f.Msgs,m.length ≤ 1048576:=⟨k7,hb.msgs⟩
  have hV:∀ v r,VB v → rdVok (vidE v ++ r) false = (v,r,false):=fun v r h => rdrVok.cmp v r h
  by_cases hk1:f.Kind = 1
  · rw [if_pos hk1]
    have he:idE f ++ kindE f = vidE f.Cur ++ (vidE f.Prom ++ []):=by unfold idE kindE; rw [if_pos hk1,if_pos hk1]; simp
    simp only []
    rw [he,hV _ _ ⟨hb.cur,k2⟩]
    simp only []
    rw [hV _ _ ⟨hb.prom,k3⟩]
    have hfr:f = fr1 f.From.toNat f.Cur f.Prom:=frame_is hk1 hF (vid0.2 (b1 hk1)) (b2 (by omega) (by omega)) rfl rfl (nil_of (b5 (by omega) (by omega))) (b6 (by omega) (by omega)).1 (nil_of (b7 (by omega))) (nil_of (b8 (by omega)).1) (b6 (by omega) (by omega)).2 (b8 (by omega)).2
    rw [← hfr]
  · rw [if_neg hk1]
    obtain ⟨i1,i2⟩:=k1 hk1
    have hid:VB f.ID:=⟨hb.id,i1⟩
    have he:idE f ++ kindE f = vidE f.ID ++ kindE f:=by unfold idE; rw [if_neg hk1]
    simp only []
    rw [he,hV _ _ hid]
    unfold rdK
    simp only []
    have hc:∀ r,rdI (uenc f.Set ++ r) false 65535 = (f.Set,r,false):=fun r => (rdrI 65535 (by decide)).cmp f.Set r ⟨by have:=hb.set; omega,by have:=hb.set; omega⟩
    by_cases hk2:f.Kind = 2
    · have he2:kindE f = uenc f.Set ++ []:=by unfold kindE; rw [if_neg hk1,if_pos hk2]; simp
      rw [if_pos hk2,he2,hc]
      have hfr:f = fr2 f.From.toNat f.ID f.Set:=frame_is hk2 hF rfl rfl (vid0.2 (b3 hk1)) (vid0.2 (b4 hk1 (by omega))) (nil_of (b5 (by omega) (by omega))) (b6 (by omega) (by omega)).1 (nil_of (b7 (by omega))) (nil_of (b8 (by omega)).1) (b6 (by omega) (by omega)).2 (b8 (by omega)).2
      simp only []
      rw [← hfr]
    · rw [if_neg hk2]
      by_cases hk3:f.Kind = 3
      · have he2:kindE f = statesE f.States ++ []:=by unfold kindE; rw [if_neg hk1,if_neg hk2,if_pos hk3]; simp
        rw [if_pos hk3,he2,statesR_cmp [] hS]
        have hfr:f = fr3 f.From.toNat f.ID f.States:=frame_is hk3 hF rfl (b2 (by omega) (by omega)) (vid0.2 (b3 hk1)) (vid0.2 (b4 hk1 (by omega))) rfl (b6 (by omega) (by omega)).1 (nil_of (b7 (by omega))) (nil_of (b8 (by omega)).1) (b6 (by omega) (by omega)).2 (b8 (by omega)).2
        simp only []
        rw [← hfr]
      · rw [if_neg hk3]
        by_cases hk4:f.Kind = 4
        · have he2:kindE f = vidE f.Prom ++ []:=by unfold kindE; rw [if_neg hk1,if_neg hk2,if_neg hk3,if_pos hk4]; simp
          rw [if_pos hk4,he2,hV _ _ ⟨hb.prom,k3⟩]
          have hfr:f = fr4 f.From.toNat f.ID f.Prom:=frame_is hk4 hF rfl (b2 (by omega) (by omega)) (vid0.2 (b3 hk1)) rfl (nil_of (b5 (by omega) (by omega))) (b6 (by omega) (by omega)).1 (nil_of (b7 (by omega))) (nil_of (b8 (by omega)).1) (b6 (by omega) (by omega)).2 (b8 (by omega)).2
          simp only []
          rw [← hfr]
        · rw [if_neg hk4]
          by_cases hk5:f.Kind = 5
          · have he2:kindE f = uenc f.Set ++ (statesE f.States ++ []):=by unfold kindE; rw [if_neg hk1,if_neg hk2,if_neg hk3,if_neg hk4,if_pos hk5]; simp
            rw [if_pos hk5,he2,hc]
            simp only []
            rw [statesR_cmp [] hS]
            have hfr:f = fr5 f.From.toNat f.ID f.Set f.States:=frame_is hk5 hF rfl rfl (vid0.2 (b3 hk1)) (vid0.2 (b4 hk1 (by omega))) rfl (b6 (by omega) (by omega)).1 (nil_of (b7 (by omega))) (nil_of (b8 (by omega)).1) (b6 (by omega) (by omega)).2 (b8 (by omega)).2
            simp only []
            rw [← hfr]
          · rw [if_neg hk5]
            by_cases hk6:f.Kind = 6
            · have he2:kindE f = (uenc f.Base ++ (uenc f.Ack ++ msgsE f.Msgs)) ++ []:=by unfold kindE; rw [if_neg hk1,if_neg hk2,if_neg hk3,if_neg hk4,if_neg hk5,if_pos hk6]; simp
              rw [if_pos hk6,he2]
              have hc:=(rdrU.seq (rdrU.seq rdrMsgs)).cmp (f.Base,f.Ack,f.Msgs) [] ⟨hb.base,hb.ack,hM⟩
              simp only [] at hc
              rw [hc]
              have hfr:f = fr6 f.From.toNat f.ID f.Base f.Ack f.Msgs:=frame_is hk6 hF rfl (b2 (by omega) (by omega)) (vid0.2 (b3 hk1)) (vid0.2 (b4 hk1 (by omega))) (nil_of (b5 (by omega) (by omega))) rfl rfl (nil_of (b8 (by omega)).1) rfl (b8 (by omega)).2
              simp only []
              rw [← hfr]
            · have hk7:f.Kind = 7:=by omega
              have he2:kindE f = (uenc f.Base ++ (uenc f.Ack ++ (uenc f.Safe ++ itemsE f.Items))) ++ []:=by unfold kindE; rw [if_neg hk1,if_neg hk2,if_neg hk3,if_neg hk4,if_neg hk5,if_neg hk6]; simp
              rw [if_neg hk6,if_pos hk7,he2]
              have hc:=(rdrU.seq (rdrU.seq (rdrU.seq rdrItems))).cmp (f.Base,f.Ack,f.Safe,f.Items) [] ⟨hb.base,hb.ack,hb.safe,hI⟩
              simp only [] at hc
              rw [hc]
              have hfr:f = fr7 f.From.toNat f.ID f.Base f.Ack f.Safe f.Items:=frame_is hk7 hF rfl (b2 (by omega) (by omega)) (vid0.2 (b3 hk1)) (vid0.2 (b4 hk1 (by omega))) (nil_of (b5 (by omega) (by omega))) rfl (nil_of (b7 (by omega))) rfl rfl rfl
              simp only []
              rw [← hfr]
def refA (b:List Nat):GFrame × Int:=if 1048576 < b.length then (zF,2) else if (openL b).2 = 0 then refF b (openL b).1 (rdP (openL b).1).1 (rdP (openL b).1).2.1 (rdP (openL b).1).2.2 else (zF,(openL b).2)
theorem ways {b:List Nat} (hs:Small b) (hfb:(rdP (openL b).1).2.2 = false → FB (rdP (openL b).1).1):refA b = decA b:=by
  unfold refA decA
  split
  · rfl
  split
  · rename_i h0
    have hp:Small (openL b).1:=openL_small hs
    have hb:=open_is h0
    generalize (openL b).1 = p at *
    unfold refF
    by_cases hr:(rdP p).2.2 = false∧(rdP p).2.1 = []∧formC (rdP p).1 = true∧seal_ (bodyE (rdP p).1) = b
    · rw [if_pos hr]
      obtain ⟨r1,r2,r3,r4⟩:=hr
      have he:bodyE (rdP p).1 = p:=by
        have h1:=open_seal (bodyE (rdP p).1)
        have h2:=open_seal p
        rw [r4] at h1
        rw [← hb] at h2
        rw [h1] at h2
        injection h2
      have:=decP_cmp r3 (hfb r1)
      rw [he] at this
      exact this.symm
    · rw [if_neg hr]
      rcases decP_snd hp with h | ⟨g,h1,h2,h3,h4⟩
      · exact h.symm
      · exfalso
        apply hr
        have h5:=rdP_cmp h2 h3
        rw [h4] at h5
        rw [h5]
        exact ⟨rfl,rfl,h2,by rw [h4]; exact hb.symm⟩
  · rfl
end Go.FM

set_option linter.unusedVariables false
set_option linter.unusedSimpArgs false
namespace Go.FM
open Go
theorem rdB_len (bs:List Nat) (b:Bool) (most:Int):(rdB bs b most).2.1.length ≤ bs.length:=by
  have:=rdI_len bs b most
  unfold rdB
  split
  · exact this
  · show ((rdI bs b most).2.1.drop _).length ≤ _; rw [List.length_drop]; omega
theorem rdI_most (bs:List Nat) (b:Bool) (most:Int) (h0:0 ≤ most):((rdI bs b most).1:Int) ≤ most:=by
  by_cases h:(rdU bs b).2.2 = true ∨ most < 0 ∨ most < ((rdU bs b).1:Int)
  · rw [rdI_bad h]; exact h0
  · have h1:(rdU bs b).2.2 = false:=by cases hq:(rdU bs b).2.2 with | false => rfl | true => exact absurd (.inl hq) h
    rw [rdI_good h1 (fun hh => h (.inr (.inl hh))) (fun hh => h (.inr (.inr hh)))]
    exact Int.not_lt.1 fun hh => h (.inr (.inr hh))
theorem rdB_most (bs:List Nat) (b:Bool) (most:Int) (h0:0 ≤ most):(((rdB bs b most).1.length:Nat):Int) ≤ most:=by
  have:=rdI_most bs b most h0
  unfold rdB
  split
  · exact h0
  · show ((((rdI bs b most).2.1.take _).length:Nat):Int) ≤ _; rw [List.length_take]; omega
theorem openL_le (b:List Nat):(openL b).1.length ≤ b.length:=by
  unfold openL
  split
  · exact Nat.zero_le _
  · split
    · rw [List.length_take]; omega
    · exact Nat.zero_le _
section
variable {bs cur:List Nat} {b bad:Bool} {q q1 q2:Nat × List Nat × Bool}
theorem vc_no (h1:q1 = rdU bs b) (h2:q2 = rdI q1.2.1 q1.2.2 15) (h:q2.2.2 = true ∨ formVI ⟨q1.1,(q2.1:Int)⟩ = false):((GViewID.mk 0 0,false),q2.2) = rdVC bs b:=by
  subst h1 h2
  unfold rdVC
  rw [if_neg (fun hc => by
    rcases h with h | h
    · have:(rdV bs b).2.2 = true:=h
      rw [hc.1] at this; cases this
    · have:formVI (rdV bs b).1 = false:=h
      rw [hc.2] at this; cases this)]
  rfl
theorem vc_yes (h1:q1 = rdU bs b) (h2:q2 = rdI q1.2.1 q1.2.2 15) (hb:q2.2.2 = false) (h:formVI ⟨q1.1,(q2.1:Int)⟩ = true):((GViewID.mk q1.1 (q2.1:Int),true),q2.2) = rdVC bs b:=by
  subst h1 h2
  unfold rdVC
  rw [if_pos ⟨hb,h⟩]
  rfl
variable {l:List GItem} {k:Int} {m:List Nat × List Nat × Bool}
def ItInv (bs:List Nat) (b:Bool) (l:List GItem) (k:Int) (cur:List Nat) (bad:Bool):Prop:=rdItems bs b = (l ++ (rlist rdItem k.toNat cur bad).1,(rlist rdItem k.toNat cur bad).2)
theorem it_start (h:q = rdI bs b 4096):ItInv bs b [] ((q.1:Nat):Int) q.2.1 q.2.2:=by subst h; rfl
theorem it_step (hi:ItInv bs b l k cur bad) (hk:0 < k) (hb:bad = false) (h1:q1 = rdI cur bad 15) (h2:m = rdB q1.2.1 q1.2.2 1048576):ItInv bs b (l ++ [⟨(q1.1:Int),m.1⟩]) (k - 1) m.2.1 m.2.2:=by
  subst h1 h2 hb
  unfold ItInv at hi ⊢
  rw [hi,show k.toNat = (k - 1).toNat + 1 by omega,rlist,if_neg (by decide)]
  rw [List.append_assoc]
  rfl
theorem it_done (hi:ItInv bs b l k cur bad) (h:k ≤ 0 ∨ bad = true):(l,cur,bad) = rdItems bs b:=by
  unfold ItInv at hi
  rw [hi]
  rcases h with h | h
  · rw [show k.toNat = 0 by omega]; simp [rlist]
  · subst h
    have:∀ n,rlist rdItem n cur true = ([],cur,true):=fun n => by cases n with | zero => rfl | succ n => rw [rlist,if_pos rfl]
    rw [this]; simp
variable {t:List GState} {v:(GViewID × Bool) × List Nat × Bool} {i:List GItem × List Nat × Bool}
theorem stC_is (h1:v = rdVC cur bad) (h2:q1 = rdI v.2.1 v.2.2 1073741824) (h3:i = rdItems q1.2.1 q1.2.2):stC cur bad = ((GState.mk v.1.1 (q1.1:Int) i.1,v.1.2 && sForm (GState.mk v.1.1 (q1.1:Int) i.1)),i.2):=by subst h1 h2 h3; rfl
def StInv (bs:List Nat) (b:Bool) (t:List GState) (k:Int) (cur:List Nat) (bad:Bool):Prop :=
  stsC (rdI bs b 4096).1 (rdI bs b 4096).2.1 (rdI bs b 4096).2.2 = ((t ++ (stsC k.toNat cur bad).1.1,(stsC k.toNat cur bad).1.2),(stsC k.toNat cur bad).2)
theorem st_start (h:q = rdI bs b 4096):StInv bs b [] ((q.1:Nat):Int) q.2.1 q.2.2:=by subst h; rfl
theorem st_step (hi:StInv bs b t k cur bad) (hk:0 < k) (hb:bad = false) (h1:v = rdVC cur bad) (h2:q1 = rdI v.2.1 v.2.2 1073741824) (h3:i = rdItems q1.2.1 q1.2.2) (h4:v.1.2 = true) (h5:sForm (GState.mk v.1.1 (q1.1:Int) i.1) = true):StInv bs b (t ++ [GState.mk v.1.1 (q1.1:Int) i.1]) (k - 1) i.2.1 i.2.2:=by
  have hc:=stC_is h1 h2 h3
  subst hb
  unfold StInv at hi ⊢
  rw [hi,show k.toNat = (k - 1).toNat + 1 by omega,stsC,if_neg (by decide),hc,if_pos (by show (v.1.2 && _) = true; rw [h4,h5]; rfl)]
  show ((t ++ (_::_),_),_) = ((t ++ [_] ++ _,_),_)
  rw [List.append_assoc]
  rfl
theorem st_no (hi:StInv bs b t k cur bad) (hk:0 < k) (hb:bad = false) (h1:v = rdVC cur bad) (h2:q1 = rdI v.2.1 v.2.2 1073741824) (h3:i = rdItems q1.2.1 q1.2.2) (h4:v.1.2 = false ∨ sForm (GState.mk v.1.1 (q1.1:Int) i.1) = false):(([],false),i.2) = statesC bs b:=by
  have hc:=stC_is h1 h2 h3
  subst hb
  unfold StInv at hi
  have e:stsC k.toNat cur false = (([],false),i.2):=by
    rw [show k.toNat = (k - 1).toNat + 1 by omega,stsC,if_neg (fun h => Bool.noConfusion h),hc,if_neg (by show ¬ (v.1.2 && _) = true; rcases h4 with h4 | h4 <;> rw [h4] <;> simp)]
  unfold statesC
  rw [hi,e,if_neg (fun h => Bool.noConfusion h)]
theorem st_done (hi:StInv bs b t k cur bad) (h:k ≤ 0 ∨ bad = true):((t,true),cur,bad) = statesC bs b:=by
  unfold StInv at hi
  have:stsC k.toNat cur bad = (([],true),cur,bad):=by
    rcases h with h | h
    · rw [show k.toNat = 0 by omega]; rfl
    · subst h; cases k.toNat with | zero => rfl | succ n => rw [stsC,if_pos rfl]
  unfold statesC
  rw [hi,this]
  simp
variable {ms:List (List Nat)}
def MsInv (bs:List Nat) (b:Bool) (l:List (List Nat)) (k:Int) (cur:List Nat) (bad:Bool):Prop:=rdMsgs bs b = (l ++ (rlist rB k.toNat cur bad).1,(rlist rB k.toNat cur bad).2)
theorem ms_start (h:q = rdI bs b 4096):MsInv bs b [] ((q.1:Nat):Int) q.2.1 q.2.2:=by subst h; rfl
theorem ms_step (hi:MsInv bs b ms k cur bad) (hk:0 < k) (hb:bad = false) (h2:m = rdB cur bad 1048576):MsInv bs b (ms ++ [m.1]) (k - 1) m.2.1 m.2.2:=by
  subst h2 hb
  unfold MsInv at hi ⊢
  rw [hi,show k.toNat = (k - 1).toNat + 1 by omega,rlist,if_neg (by decide)]
  rw [List.append_assoc]
  rfl
theorem ms_done (hi:MsInv bs b ms k cur bad) (h:k ≤ 0 ∨ bad = true):(ms,cur,bad) = rdMsgs bs b:=by
  unfold MsInv at hi
  rw [hi]
  rcases h with h | h
  · rw [show k.toNat = 0 by omega]; simp [rlist]
  · subst h
    have:∀ n,rlist rB n cur true = ([],cur,true):=fun n => by cases n with | zero => rfl | succ n => rw [rlist,if_pos rfl]
    rw [this]; simp
variable {p:List Nat} {K F:Nat} {kk f s u1 u2 u3:Nat × List Nat × Bool} {c c2 vi:(GViewID × Bool) × List Nat × Bool} {ts:(List GState × Bool) × List Nat × Bool}
theorem dec_head (h:decA bs = decP p) (hk:kk = rdI p false 255) (hf:f = rdI kk.2.1 kk.2.2 15):decA bs = decF kk.1 f:=by rw [h]; subst hk hf; rfl
theorem dec_1 (h:decA bs = decF K f) (hK:K = 1) (hc:c = rdVC f.2.1 f.2.2) (hp:c2 = rdVC c.2.1 c.2.2):decA bs = finC ⟨K,f.1,⟨0,0⟩,0,c.1.1,c2.1.1,[],0,[],[],0,0⟩ c.1.2 c2.1.2 c2.2:=by
  rw [h]; subst hK hp hc; unfold decF; rw [if_pos rfl]; rfl
theorem dec_i (h:decA bs = decF K f) (hK:K ≠ 1) (hi:vi = rdVC f.2.1 f.2.2):decA bs = decK K f.1 vi:=by
  rw [h]; subst hi; unfold decF; rw [if_neg hK]
theorem dec_1' (h:decA bs = decF K f) (hK:K = 1) (hi:K = 1 → vi = ((⟨0,0⟩,true),f.2)) (hc:c = rdVC vi.2.1 vi.2.2) (hp:c2 = rdVC c.2.1 c.2.2):decA bs = finC ⟨K,f.1,vi.1.1,0,c.1.1,c2.1.1,[],0,[],[],0,0⟩ c.1.2 c2.1.2 c2.2:=by
  rw [hi hK] at hc ⊢; exact dec_1 h hK hc hp
theorem dec_i' (h:decA bs = decF K f) (hK:K ≠ 1) (hi:K ≠ 1 → vi = rdVC f.2.1 f.2.2):decA bs = decK K f.1 vi:=dec_i h hK (hi hK)
theorem dec_2 (h:decA bs = decK K F vi) (hK:K = 2) (hs:s = rdI vi.2.1 vi.2.2 65535):decA bs = finC ⟨K,F,vi.1.1,s.1,⟨0,0⟩,⟨0,0⟩,[],0,[],[],0,0⟩ vi.1.2 true s.2:=by
  rw [h]; subst hK hs; rfl
theorem dec_3 (h:decA bs = decK K F vi) (hK:K = 3) (hs:ts = statesC vi.2.1 vi.2.2):decA bs = finC ⟨K,F,vi.1.1,0,⟨0,0⟩,⟨0,0⟩,ts.1.1,0,[],[],0,0⟩ vi.1.2 ts.1.2 ts.2:=by
  rw [h]; subst hK hs; rfl
theorem dec_4 (h:decA bs = decK K F vi) (hK:K = 4) (hs:c = rdVC vi.2.1 vi.2.2):decA bs = finC ⟨K,F,vi.1.1,0,⟨0,0⟩,c.1.1,[],0,[],[],0,0⟩ vi.1.2 c.1.2 c.2:=by
  rw [h]; subst hK hs; rfl
theorem dec_5 (h:decA bs = decK K F vi) (hK:K = 5) (hs:s = rdI vi.2.1 vi.2.2 65535) (ht:ts = statesC s.2.1 s.2.2):decA bs = finC ⟨K,F,vi.1.1,s.1,⟨0,0⟩,⟨0,0⟩,ts.1.1,0,[],[],0,0⟩ vi.1.2 ts.1.2 ts.2:=by
  rw [h]; subst hK hs ht; rfl
theorem dec_6 (h:decA bs = decK K F vi) (hK:K = 6) (h1:u1 = rdU vi.2.1 vi.2.2) (h2:u2 = rdU u1.2.1 u1.2.2) (hm:(ms,cur,bad) = rdMsgs u2.2.1 u2.2.2):decA bs = finC ⟨K,F,vi.1.1,0,⟨0,0⟩,⟨0,0⟩,[],u1.1,ms,[],u2.1,0⟩ vi.1.2 true (cur,bad):=by
  have e:rseq rdU (rseq rdU rdMsgs) vi.2.1 vi.2.2 = ((u1.1,u2.1,ms),cur,bad):=by
    subst h1 h2
    unfold rseq
    rw [← hm]
  rw [h]; subst hK; unfold decK; rw [if_neg (by decide),if_neg (by decide),if_neg (by decide),if_neg (by decide),if_pos rfl,e]; rfl
theorem dec_7 (h:decA bs = decK K F vi) (hK:K = 7) (h1:u1 = rdU vi.2.1 vi.2.2) (h2:u2 = rdU u1.2.1 u1.2.2) (h3:u3 = rdU u2.2.1 u2.2.2) (hm:i = rdItems u3.2.1 u3.2.2):decA bs = finC ⟨K,F,vi.1.1,0,⟨0,0⟩,⟨0,0⟩,[],u1.1,[],i.1,u2.1,u3.1⟩ vi.1.2 true i.2:=by
  rw [h]; subst hK h1 h2 h3 hm; rfl
theorem dec_0 (h:decA bs = decK K F vi) (h2:K ≠ 2) (h3:K ≠ 3) (h4:K ≠ 4) (h5:K ≠ 5) (h6:K ≠ 6) (h7:K ≠ 7):decA bs = (zF,3):=by
  rw [h]; unfold decK; rw [if_neg h2,if_neg h3,if_neg h4,if_neg h5,if_neg h6,if_neg h7]
variable {g:GFrame} {ok fine:Bool} {r:List Nat × Bool} {n:Nat}
theorem fin_ok (h:ok = false):finC g ok fine r = (zF,3):=if_neg (fun hc => by rw [h] at hc; cases hc.1)
theorem fin_fine (h:fine = false):finC g ok fine r = (zF,3):=if_neg (fun hc => by rw [h] at hc; cases hc.2.1)
theorem fin_bad (h:r.2 = true):finC g ok fine r = (zF,3):=if_neg (fun hc => by rw [h] at hc; cases hc.2.2.1)
theorem fin_left (hn:r.1.length = n) (h:(0:Int) < if r.2 = true then 0 else ((n:Nat):Int)):finC g ok fine r = (zF,3):=if_neg (fun hc => by
  rw [hc.2.2.2.1] at hn; subst hn; split at h <;> exact absurd h (by decide))
theorem fin_st (hk:g.Kind = 3) (h:g.States.length ≠ 1):finC g ok fine r = (zF,3):=if_neg (fun hc => h (hc.2.2.2.2.1 hk))
theorem fin_id (hk:g.Kind ≠ 1) (h:g.ID.N = 0):finC g ok fine r = (zF,3):=if_neg (fun hc => hc.2.2.2.2.2 hk h)
theorem fin_yes (h1:ok = true) (h2:fine = true) (h3:r.2 = false) (hn:r.1.length = n) (h4:¬ (0:Int) < if r.2 = true then 0 else ((n:Nat):Int)) (h5:g.Kind = 3 → g.States.length = 1) (h6:g.Kind ≠ 1 → g.ID.N ≠ 0):finC g ok fine r = (g,0) :=
  if_pos ⟨h1,h2,h3,List.eq_nil_of_length_eq_zero (by rw [h3] at h4; simp at h4; omega),h5,h6⟩
theorem tail_ok (h:¬ (ok = true) ∨ ¬ (fine = true)):finC g ok fine r = (zF,3):=by
  rcases h with h | h
  · exact fin_ok (by simpa using h)
  · exact fin_fine (by simpa using h)
theorem tail_no {m:Nat} (hn:r.1.length = n) (hm:g.States.length = m) (h:((0:Int) < (if r.2 = true then 0 else ((n:Nat):Int)) ∨ (((g.Kind:Nat):Int) = 3∧((m:Nat):Int) ≠ 1)) ∨ (((g.Kind:Nat):Int) ≠ 1∧((g.ID.N:Nat):Int) = 0)):finC g ok fine r = (zF,3):=by
  rcases h with (h | h) | h
  · exact fin_left hn h
  · exact fin_st (by omega) (by omega)
  · exact fin_id (by omega) (by omega)
theorem tail_yes {m:Nat} (h0:¬ (¬ (ok = true) ∨ ¬ (fine = true))) (hb:r.2 = false) (hn:r.1.length = n) (hm:g.States.length = m) (h:¬ (((0:Int) < (if r.2 = true then 0 else ((n:Nat):Int)) ∨ (((g.Kind:Nat):Int) = 3∧((m:Nat):Int) ≠ 1)) ∨ (((g.Kind:Nat):Int) ≠ 1∧((g.ID.N:Nat):Int) = 0))):finC g ok fine r = (g,0):=by
  rw [not_or,Classical.not_not,Classical.not_not] at h0
  exact fin_yes h0.1 h0.2 hb hn (fun hh => h (.inl (.inl hh))) (fun h3 => by omega) (fun h1 => by omega)
end
end Go.FM

set_option linter.unusedVariables false
set_option linter.unusedSimpArgs false
namespace Go.FM
open Go
def atOf (n:Nat) (cur:List Nat) (bad:Bool):Int:=if bad then -1 else (n:Int) - (cur.length:Int)
def Suf (bs cur:List Nat):Prop:=∃ k,k ≤ bs.length∧cur = bs.drop k
theorem atOf_true (n:Nat) (cur:List Nat):atOf n cur true = -1:=rfl
theorem atOf_false (n:Nat) (cur:List Nat):atOf n cur false = (n:Int) - (cur.length:Int):=rfl
theorem Suf.refl (bs:List Nat):Suf bs bs:=⟨0,Nat.zero_le _,rfl⟩
theorem Suf.len {bs cur:List Nat} (h:Suf bs cur):cur.length ≤ bs.length:=by obtain ⟨k,hk,rfl⟩:=h; simp
theorem Suf.drop {bs cur:List Nat} (h:Suf bs cur) (m:Nat):Suf bs (cur.drop m):=by
  obtain ⟨k,hk,rfl⟩:=h
  by_cases hm:k + m ≤ bs.length
  · exact ⟨k + m,hm,by rw [List.drop_drop]⟩
  · exact ⟨bs.length,Nat.le_refl _,by rw [List.drop_drop,List.drop_eq_nil_of_le (by omega),List.drop_length]⟩
theorem Suf.eq {bs cur:List Nat} (h:Suf bs cur):cur = bs.drop (bs.length - cur.length):=by
  obtain ⟨k,hk,rfl⟩:=h
  rw [List.length_drop,show bs.length - (bs.length - k) = k by omega]
theorem rdU_sub (cur:List Nat) (bad:Bool):∃ m,(rdU cur bad).2.1 = cur.drop m:=by
  unfold rdU
  split
  · exact ⟨0,rfl⟩
  · split
    · rename_i h
      obtain ⟨k,h1,_,_⟩:=uscan_sub _ _ _ h
      exact ⟨k,h1⟩
    · exact ⟨0,rfl⟩
theorem Suf.rdU {bs cur:List Nat} (h:Suf bs cur) (bad:Bool):Suf bs (rdU cur bad).2.1:=by
  obtain ⟨m,e⟩:=rdU_sub cur bad
  rw [e]; exact h.drop m
theorem Suf.rdI {bs cur:List Nat} (h:Suf bs cur) (bad:Bool) (most:Int):Suf bs (rdI cur bad most).2.1:=by
  unfold FM.rdI; split <;> exact h.rdU bad
theorem Suf.rdB {bs cur:List Nat} (h:Suf bs cur) (bad:Bool) (most:Int):Suf bs (rdB cur bad most).2.1:=by
  unfold FM.rdB; split
  · exact h.rdI bad most
  · exact (h.rdI bad most).drop _
theorem Rr.at_ {n:Nat} {bs cur:List Nat} {bad:Bool} {a:Int} (h:Rr n bs cur bad a) (hn:bs.length = n):a = atOf n cur bad:=by
  rcases h with ⟨rfl,rfl⟩ | ⟨rfl,k,hk,rfl,rfl⟩
  · rfl
  · rw [atOf_false,List.length_drop]; omega
theorem atOf_neg {n:Nat} {cur:List Nat} {bad:Bool} (h:cur.length ≤ n):atOf n cur bad < 0 ↔ bad = true:=by
  cases bad
  · rw [atOf_false]; simp; omega
  · simp [atOf_true]
theorem atOf_bound {n:Nat} {cur:List Nat} {bad:Bool} (h:cur.length ≤ n):-1 ≤ atOf n cur bad∧atOf n cur bad ≤ n:=by
  cases bad
  · rw [atOf_false]; omega
  · rw [atOf_true]; omega
theorem rdB_at {bs cur:List Nat} {n:Nat} (hn:bs.length = n) (h:Suf bs cur) {m:Nat} (hm:m ≤ cur.length):(bs.take ((n:Int) - (cur.length:Int) + (m:Int)).toNat).drop ((n:Int) - (cur.length:Int)).toNat = cur.take m:=by
  have hl:=h.len
  have e:=h.eq
  have e1:((n:Int) - (cur.length:Int) + (m:Int)).toNat = (bs.length - cur.length) + m:=by omega
  have e2:((n:Int) - (cur.length:Int)).toNat = bs.length - cur.length:=by omega
  rw [e1,e2,take_drop']
  conv => rhs; rw [e]
end Go.FM
namespace Go.FM
theorem atOf_or (n:Nat) (cur:List Nat) (bad:Bool):(bad = true∧atOf n cur bad = -1) ∨ (bad = false∧atOf n cur bad = (n:Int) - (cur.length:Int)):=by
  cases bad
  · exact .inr ⟨rfl,rfl⟩
  · exact .inl ⟨rfl,rfl⟩
end Go.FM

set_option linter.unusedVariables false
set_option linter.unusedSimpArgs false
namespace Go.FM
open Go
theorem vid00:(vidE ⟨0,0⟩).length = 2:=by unfold vidE; rw [show uenc (GViewID.mk 0 0).N = [0] from uenc_one (n:=0) (by decide)]; rfl
theorem ms00:(msgsE []).length = 1:=by unfold msgsE; rw [show uenc ([]:List (List Nat)).length = [0] from uenc_one (n:=0) (by decide)]; rfl
theorem it00:(itemsE []).length = 1:=by unfold itemsE; rw [show uenc ([]:List GItem).length = [0] from uenc_one (n:=0) (by decide)]; rfl
theorem st00:(statesE []).length = 1:=by unfold statesE; rw [show uenc ([]:List GState).length = [0] from uenc_one (n:=0) (by decide)]; rfl
theorem rdK_big {K F:Nat} {i:GViewID × List Nat × Bool} {N:Nat} (hs:Small i.2.1) (h:(rdK K F i).2.2 = false) (hi:i.2.2 = false → i.1.N < 18446744073709551616∧(vidE i.1).length + i.2.1.length ≤ N) :
    FB (rdK K F i).1∧bigF (rdK K F i).1 ≤ N + 9:=by
  unfold rdK at h ⊢
  have z3:=ms00
  have z4:=it00
  have z5:=st00
  have z6:=vid00
  by_cases h2:K = 2
  · rw [if_pos h2] at h ⊢
    obtain ⟨b0,g,e,s⟩:=rd_snd (rdrI 65535 (by decide)) hs h
    have g:((rdI i.2.1 i.2.2 65535).1:Int) ≤ 65535∧_:=g
    obtain ⟨i1,i2⟩:=hi b0
    refine ⟨fb0 i1 (by decide) (by decide) (by omega) (by decide) (by decide) (by decide) nomem nomem nomem,?_⟩
    unfold bigF
    show (vidE i.1).length + (vidE ⟨0,0⟩).length + (vidE ⟨0,0⟩).length + (statesE []).length + (msgsE []).length + (itemsE []).length ≤ _
    omega
  rw [if_neg h2] at h ⊢
  by_cases h3:K = 3
  · rw [if_pos h3] at h ⊢
    obtain ⟨b0,g,e,s⟩:=rd_snd (rdrStR.count 4096 (by decide) (by decide)) hs h
    obtain ⟨i1,i2⟩:=hi b0
    have hl:=congrArg List.length e
    generalize hq:rcount rdStR 4096 i.2.1 i.2.2 = q at g hl ⊢
    refine ⟨fb0 i1 (by decide) (by decide) (by decide) (by decide) (by decide) (by decide) (fun s hs => ⟨(g.2 s hs).1.1,(g.2 s hs).2.2.2.2⟩) nomem nomem,?_⟩
    unfold bigF
    show (vidE i.1).length + (vidE ⟨0,0⟩).length + (vidE ⟨0,0⟩).length + (statesE q.1).length + (msgsE []).length + (itemsE []).length ≤ _
    rw [List.length_append] at hl
    have hl:i.2.1.length = (statesE q.1).length + q.2.1.length:=hl
    omega
  rw [if_neg h3] at h ⊢
  by_cases h4:K = 4
  · rw [if_pos h4] at h ⊢
    obtain ⟨b0,g,e,s⟩:=rd_snd rdrVok hs h
    obtain ⟨i1,i2⟩:=hi b0
    have hl:=congrArg List.length e
    generalize hq:rdVok i.2.1 i.2.2 = q at g hl ⊢
    refine ⟨fb0 i1 (by decide) g.1 (by decide) (by decide) (by decide) (by decide) nomem nomem nomem,?_⟩
    unfold bigF
    show (vidE i.1).length + (vidE ⟨0,0⟩).length + (vidE q.1).length + (statesE []).length + (msgsE []).length + (itemsE []).length ≤ _
    rw [List.length_append] at hl
    omega
  rw [if_neg h4] at h ⊢
  by_cases h5:K = 5
  · rw [if_pos h5] at h ⊢
    have hsm:=(rdrI 65535 (by decide)).sm i.2.1 i.2.2 hs
    have hsm:Small (rdI i.2.1 i.2.2 65535).2.1:=hsm
    obtain ⟨b0,g,e,s⟩:=rd_snd (rdrStR.count 4096 (by decide) (by decide)) hsm h
    obtain ⟨b1,g1,e1,s1⟩:=rd_snd (rdrI 65535 (by decide)) hs b0
    have g1:((rdI i.2.1 i.2.2 65535).1:Int) ≤ 65535∧_:=g1
    obtain ⟨i1,i2⟩:=hi b1
    have hl:=congrArg List.length e
    have hll:=rdI_len i.2.1 i.2.2 65535
    generalize hq:rcount rdStR 4096 (rdI i.2.1 i.2.2 65535).2.1 (rdI i.2.1 i.2.2 65535).2.2 = q at g hl ⊢
    refine ⟨fb0 i1 (by decide) (by decide) (by omega) (by decide) (by decide) (by decide) (fun s hs => ⟨(g.2 s hs).1.1,(g.2 s hs).2.2.2.2⟩) nomem nomem,?_⟩
    unfold bigF
    show (vidE i.1).length + (vidE ⟨0,0⟩).length + (vidE ⟨0,0⟩).length + (statesE q.1).length + (msgsE []).length + (itemsE []).length ≤ _
    rw [List.length_append] at hl
    have hl:(rdI i.2.1 i.2.2 65535).2.1.length = (statesE q.1).length + q.2.1.length:=hl
    omega
  rw [if_neg h5] at h ⊢
  by_cases h6:K = 6
  · rw [if_pos h6] at h ⊢
    obtain ⟨b0,g,e,s⟩:=rd_snd (rdrU.seq (rdrU.seq rdrMsgs)) hs h
    obtain ⟨i1,i2⟩:=hi b0
    have hl:=congrArg List.length e
    generalize hq:rseq rdU (rseq rdU rdMsgs) i.2.1 i.2.2 = q at g hl ⊢
    refine ⟨fb0 i1 (by decide) (by decide) (by decide) g.1 g.2.1 (by decide) nomem g.2.2.2 nomem,?_⟩
    unfold bigF
    show (vidE i.1).length + (vidE ⟨0,0⟩).length + (vidE ⟨0,0⟩).length + (statesE []).length + (msgsE q.1.2.2).length + (itemsE []).length ≤ _
    rw [List.length_append,List.length_append,List.length_append] at hl
    omega
  rw [if_neg h6] at h ⊢
  by_cases h7:K = 7
  · rw [if_pos h7] at h ⊢
    obtain ⟨b0,g,e,s⟩:=rd_snd (rdrU.seq (rdrU.seq (rdrU.seq rdrItems))) hs h
    obtain ⟨i1,i2⟩:=hi b0
    have hl:=congrArg List.length e
    generalize hq:rseq rdU (rseq rdU (rseq rdU rdItems)) i.2.1 i.2.2 = q at g hl ⊢
    refine ⟨fb0 i1 (by decide) (by decide) (by decide) g.1 g.2.1 g.2.2.1 nomem nomem g.2.2.2.2,?_⟩
    unfold bigF
    show (vidE i.1).length + (vidE ⟨0,0⟩).length + (vidE ⟨0,0⟩).length + (statesE []).length + (msgsE []).length + (itemsE q.1.2.2.2).length ≤ _
    rw [List.length_append,List.length_append,List.length_append,List.length_append] at hl
    omega
  rw [if_neg h7] at h ⊢
  obtain ⟨i1,i2⟩:=hi h
  refine ⟨fb0 i1 (by decide) (by decide) (by decide) (by decide) (by decide) (by decide) nomem nomem nomem,?_⟩
  unfold bigF
  show (vidE i.1).length + (vidE ⟨0,0⟩).length + (vidE ⟨0,0⟩).length + (statesE []).length + (msgsE []).length + (itemsE []).length ≤ _
  omega
theorem rdP_big {p:List Nat} (hs:Small p) (h:(rdP p).2.2 = false):FB (rdP p).1∧bigF (rdP p).1 ≤ p.length + 9:=by
  have hd:rdP p = rdF (rdI p false 7).1 (rdI (rdI p false 7).2.1 (rdI p false 7).2.2 15):=rfl
  have hl1:=rdI_len p false 7
  have hl2:=rdI_len (rdI p false 7).2.1 (rdI p false 7).2.2 15
  have s1:Small (rdI p false 7).2.1:=rdI_small hs false 7
  have s2:=rdI_small s1 (rdI p false 7).2.2 15
  rw [hd] at h ⊢
  generalize (rdI p false 7).1 = K at h ⊢
  generalize rdI (rdI p false 7).2.1 (rdI p false 7).2.2 15 = f at h hl2 s2 ⊢
  have s3:=rdrVok.sm f.2.1 f.2.2 s2
  have hl3:∀ {bs:List Nat} {b:Bool},Small bs → (rdVok bs b).2.2 = false → (vidE (rdVok bs b).1).length + (rdVok bs b).2.1.length = bs.length∧(rdVok bs b).1.N < 18446744073709551616∧b = false:=fun hs hb => by
    obtain ⟨b0,g,e,_⟩:=rd_snd rdrVok hs hb
    have:=congrArg List.length e
    rw [List.length_append] at this
    exact ⟨this.symm,g.1,b0⟩
  unfold rdF at h ⊢
  by_cases h1:K = 1
  · rw [if_pos h1] at h ⊢
    obtain ⟨a1,a2,a3⟩:=hl3 s3 h
    obtain ⟨c1,c2,c3⟩:=hl3 s2 a3
    refine ⟨fb0 (by decide) c2 a2 (by decide) (by decide) (by decide) (by decide) nomem nomem nomem,?_⟩
    unfold bigF
    show (vidE ⟨0,0⟩).length + (vidE (rdVok f.2.1 f.2.2).1).length + (vidE (rdVok (rdVok f.2.1 f.2.2).2.1 (rdVok f.2.1 f.2.2).2.2).1).length + (statesE []).length + (msgsE []).length + (itemsE []).length ≤ _
    have z3:=ms00
    have z4:=it00
    have z5:=st00
    have z6:=vid00
    omega
  · rw [if_neg h1] at h ⊢
    have:=rdK_big (N:=p.length) s3 h (fun hb => by
      obtain ⟨c1,c2,c3⟩:=hl3 s2 hb
      exact ⟨c2,by omega⟩)
    exact this
section
variable {bs cur p l9:List Nat} {b bad:Bool} {q q1 q2 kk f s u1 u2 u3:Nat × List Nat × Bool} {K F n:Nat}
theorem vok_no (h1:q1 = rdU bs b) (h2:q2 = rdI q1.2.1 q1.2.2 15) (h:q2.2.2 = true ∨ formVI ⟨q1.1,(q2.1:Int)⟩ = false):(GViewID.mk 0 0,q2.2.1,true) = rdVok bs b:=by
  subst h1 h2
  unfold rdVok rguard
  rw [if_neg (fun hc => by
    rcases h with h | h
    · have:(rdV bs b).2.2 = true:=h
      rw [hc.1] at this; cases this
    · have:formVI (rdV bs b).1 = false:=h
      rw [hc.2] at this; cases this)]
  rfl
theorem vok_yes (h1:q1 = rdU bs b) (h2:q2 = rdI q1.2.1 q1.2.2 15) (hb:q2.2.2 = false) (h:formVI ⟨q1.1,(q2.1:Int)⟩ = true):(GViewID.mk q1.1 (q2.1:Int),q2.2) = rdVok bs b:=by
  subst h1 h2
  unfold rdVok rguard
  rw [if_pos ⟨hb,h⟩]
  rfl
theorem at_bad (hl:cur.length ≤ n) (h:atOf n cur bad < 0):bad = true:=(atOf_neg hl).1 h
theorem at_good (hl:cur.length ≤ n) (h:¬ atOf n cur bad < 0):bad = false:=by
  cases hb:bad with
  | false => rfl
  | true => exact absurd ((atOf_neg hl).2 hb) h
theorem at_end (hl:cur.length ≤ n) (h:¬ atOf n cur bad ≠ n):bad = false∧cur = []:=by
  have h:=Classical.not_not.1 h
  have hb:bad = false:=at_good hl (by rw [h]; omega)
  subst hb
  rw [atOf_false] at h
  exact ⟨rfl,List.eq_nil_of_length_eq_zero (by omega)⟩
theorem at_not (hl:cur.length ≤ n) (h:atOf n cur bad ≠ n):¬ (bad = false∧cur = []):=by
  rintro ⟨h1,h2⟩
  subst h1 h2
  exact h (by rw [atOf_false]; simp)
variable {l:List GItem} {k k':Int} {m:List Nat × List Nat × Bool}
theorem it_up (hi:ItInv bs b l k cur bad) (hk:0 < k) (hb:bad = false) (h1:q1 = rdI cur bad 15) (h2:m = rdB q1.2.1 q1.2.2 1048576) (e:k' = k - 1):ItInv bs b (l ++ [⟨(q1.1:Int),m.1⟩]) k' m.2.1 m.2.2:=by
  subst e; exact it_step hi hk hb h1 h2
theorem it_from (h:q = rdI bs b 4096) (e:k = ((q.1:Nat):Int)):ItInv bs b [] k q.2.1 q.2.2:=by subst e; exact it_start h
variable {ms:List (List Nat)}
theorem ms_up (hi:MsInv bs b ms k cur bad) (hk:0 < k) (hb:bad = false) (h2:m = rdB cur bad 1048576) (e:k' = k - 1):MsInv bs b (ms ++ [m.1]) k' m.2.1 m.2.2:=by
  subst e; exact ms_step hi hk hb h2
theorem ms_from (h:q = rdI bs b 4096) (e:k = ((q.1:Nat):Int)):MsInv bs b [] k q.2.1 q.2.2:=by subst e; exact ms_start h
variable {t:List GState} {v:GViewID × List Nat × Bool} {i:List GItem × List Nat × Bool}
def SrInv (bs:List Nat) (b:Bool) (t:List GState) (k:Int) (cur:List Nat) (bad:Bool):Prop:=rcount rdStR 4096 bs b = (t ++ (rlist rdStR k.toNat cur bad).1,(rlist rdStR k.toNat cur bad).2)
theorem sr_from (h:q = rdI bs b 4096) (e:k = ((q.1:Nat):Int)):SrInv bs b [] k q.2.1 q.2.2:=by subst h e; rfl
theorem sr_up (hi:SrInv bs b t k cur bad) (hk:0 < k) (hb:bad = false) (h1:v = rdVok cur bad) (h2:q1 = rdI v.2.1 v.2.2 1073741824) (h3:i = rdItems q1.2.1 q1.2.2) (e:k' = k - 1):SrInv bs b (t ++ [⟨v.1,(q1.1:Int),i.1⟩]) k' i.2.1 i.2.2:=by
  subst e h1 h2 h3 hb
  unfold SrInv at hi ⊢
  rw [hi,show k.toNat = (k - 1).toNat + 1 by omega,rlist,if_neg (by decide)]
  rw [List.append_assoc]
  rfl
theorem sr_done (hi:SrInv bs b t k cur bad) (h:k ≤ 0 ∨ bad = true):(t,cur,bad) = rcount rdStR 4096 bs b:=by
  unfold SrInv at hi
  rw [hi]
  rcases h with h | h
  · rw [show k.toNat = 0 by omega]; simp [rlist]
  · subst h
    have:∀ n,rlist rdStR n cur true = ([],cur,true):=fun n => by cases n with | zero => rfl | succ n => rw [rlist,if_pos rfl]
    rw [this]; simp
variable {vi c c2:GViewID × List Nat × Bool} {ts:List GState × List Nat × Bool}
theorem ref_head (hk:kk = rdI p false 7) (hf:f = rdI kk.2.1 kk.2.2 15):rdP p = rdF kk.1 f:=by subst hk hf; rfl
theorem ref_1 (h:rdP p = rdF K f) (hK:K = 1) (hc:c = rdVok f.2.1 f.2.2) (hp:c2 = rdVok c.2.1 c.2.2):rdP p = (⟨K,f.1,⟨0,0⟩,0,c.1,c2.1,[],0,[],[],0,0⟩,c2.2):=by
  rw [h]; subst hK hp hc; unfold rdF; rw [if_pos rfl]; rfl
theorem ref_i (h:rdP p = rdF K f) (hK:K ≠ 1) (hi:vi = rdVok f.2.1 f.2.2):rdP p = rdK K f.1 vi:=by
  rw [h]; subst hi; unfold rdF; rw [if_neg hK]
theorem ref_2 (h:rdP p = rdK K F vi) (hK:K = 2) (hs:s = rdI vi.2.1 vi.2.2 65535):rdP p = (⟨K,F,vi.1,s.1,⟨0,0⟩,⟨0,0⟩,[],0,[],[],0,0⟩,s.2):=by
  rw [h]; subst hK hs; rfl
theorem ref_3 (h:rdP p = rdK K F vi) (hK:K = 3) (hs:ts = rcount rdStR 4096 vi.2.1 vi.2.2):rdP p = (⟨K,F,vi.1,0,⟨0,0⟩,⟨0,0⟩,ts.1,0,[],[],0,0⟩,ts.2):=by
  rw [h]; subst hK hs; rfl
theorem ref_4 (h:rdP p = rdK K F vi) (hK:K = 4) (hs:c = rdVok vi.2.1 vi.2.2):rdP p = (⟨K,F,vi.1,0,⟨0,0⟩,c.1,[],0,[],[],0,0⟩,c.2):=by
  rw [h]; subst hK hs; rfl
theorem ref_5 (h:rdP p = rdK K F vi) (hK:K = 5) (hs:s = rdI vi.2.1 vi.2.2 65535) (ht:ts = rcount rdStR 4096 s.2.1 s.2.2):rdP p = (⟨K,F,vi.1,s.1,⟨0,0⟩,⟨0,0⟩,ts.1,0,[],[],0,0⟩,ts.2):=by
  rw [h]; subst hK hs ht; rfl
theorem ref_6 (h:rdP p = rdK K F vi) (hK:K = 6) (h1:u1 = rdU vi.2.1 vi.2.2) (h2:u2 = rdU u1.2.1 u1.2.2) (hm:(ms,cur,bad) = rdMsgs u2.2.1 u2.2.2):rdP p = (⟨K,F,vi.1,0,⟨0,0⟩,⟨0,0⟩,[],u1.1,ms,[],u2.1,0⟩,(cur,bad)):=by
  have e:rseq rdU (rseq rdU rdMsgs) vi.2.1 vi.2.2 = ((u1.1,u2.1,ms),cur,bad):=by
    subst h1 h2
    unfold rseq
    rw [← hm]
  rw [h]; subst hK; unfold rdK; rw [if_neg (by decide),if_neg (by decide),if_neg (by decide),if_neg (by decide),if_pos rfl,e]; rfl
theorem ref_7 (h:rdP p = rdK K F vi) (hK:K = 7) (h1:u1 = rdU vi.2.1 vi.2.2) (h2:u2 = rdU u1.2.1 u1.2.2) (h3:u3 = rdU u2.2.1 u2.2.2) (hm:i = rdItems u3.2.1 u3.2.2):rdP p = (⟨K,F,vi.1,0,⟨0,0⟩,⟨0,0⟩,[],u1.1,[],i.1,u2.1,u3.1⟩,i.2):=by
  rw [h]; subst hK h1 h2 h3 hm; rfl
theorem ref_0 (h:rdP p = rdK K F vi) (h2:K ≠ 2) (h3:K ≠ 3) (h4:K ≠ 4) (h5:K ≠ 5) (h6:K ≠ 6) (h7:K ≠ 7):rdP p = (⟨K,F,vi.1,0,⟨0,0⟩,⟨0,0⟩,[],0,[],[],0,0⟩,vi.2):=by
  rw [h]; unfold rdK; rw [if_neg h2,if_neg h3,if_neg h4,if_neg h5,if_neg h6,if_neg h7]
variable {g:GFrame} {r:List Nat × Bool}
theorem refA_long (h:1048576 < bs.length):refA bs = (zF,2):=if_pos h
theorem refA_open (h:¬ 1048576 < bs.length) (h2:(openL bs).2 ≠ 0):refA bs = (zF,(openL bs).2):=by unfold refA; rw [if_neg h,if_neg h2]
theorem refA_read (h:¬ 1048576 < bs.length) (h2:(openL bs).2 = 0) (hr:rdP (openL bs).1 = (g,r)):refA bs = refF bs (openL bs).1 g r.1 r.2:=by unfold refA; rw [if_neg h,if_pos h2,hr]
theorem refF_at (h:¬ (r.2 = false∧r.1 = [])):refF bs p g r.1 r.2 = (zF,3):=if_neg (fun hc => h ⟨hc.1,hc.2.1⟩)
theorem refF_form (h:formC g = false):refF bs p g r.1 r.2 = (zF,3):=if_neg (fun hc => by rw [h] at hc; exact Bool.noConfusion hc.2.2.1)
theorem refF_enc (h:seal_ (bodyE g) ≠ bs):refF bs p g r.1 r.2 = (zF,3):=if_neg (fun hc => h hc.2.2.2)
theorem refF_yes (h:r.2 = false∧r.1 = []) (h2:formC g = true) (h3:seal_ (bodyE g) = bs):refF bs p g r.1 r.2 = (g,0):=if_pos ⟨h.1,h.2,h2,h3⟩
theorem ref_big (hs:Small p) (hr:rdP p = (g,r)) (h:r.2 = false):FB g∧bigF g ≤ p.length + 9:=by
  have:=rdP_big hs (by rw [hr]; exact h)
  rw [hr] at this; exact this
theorem form_kind (h:formC g = true):1 ≤ g.Kind∧g.Kind ≤ 7:=by have:=(formC_all.1 h).1; omega
theorem ref_1' (h:rdP p = rdF K f) (hK:K = 1) (hi:K = 1 → vi = (⟨0,0⟩,f.2)) (hc:c = rdVok vi.2.1 vi.2.2) (hp:c2 = rdVok c.2.1 c.2.2):rdP p = (⟨K,f.1,vi.1,0,c.1,c2.1,[],0,[],[],0,0⟩,c2.2):=by
  rw [hi hK] at hc ⊢; exact ref_1 h hK hc hp
theorem ref_i' (h:rdP p = rdF K f) (hK:K ≠ 1) (hi:K ≠ 1 → vi = rdVok f.2.1 f.2.2):rdP p = rdK K f.1 vi:=ref_i h hK (hi hK)
end
end Go.FM

set_option linter.unusedVariables false
set_option linter.unusedSimpArgs false
namespace Go.FM
open Go
theorem ways2 {b:List Nat} (hs:Small b):refA b = decA b:=ways hs (fun h => (rdP_big (openL_small hs) h).1)
theorem awk:encC (GFrame.mk 1 1 (GViewID.mk 0 0) 0 (GViewID.mk 0 0) (GViewID.mk 0 0) [] 0 [] [] 0 0) = (seal_ [1,1,0,0,0,0],0):=by
  have hv:vidE ⟨0,0⟩ = [0,0]:=by unfold vidE; rw [show uenc (GViewID.mk 0 0).N = [0] from uenc_one (n:=0) (by decide)]; rfl
  have hb:bodyE (GFrame.mk 1 1 (GViewID.mk 0 0) 0 (GViewID.mk 0 0) (GViewID.mk 0 0) [] 0 [] [] 0 0) = [1,1,0,0,0,0]:=by
    unfold bodyE idE kindE
    rw [if_pos rfl,if_pos rfl]
    show [1,_] ++ [] ++ (vidE ⟨0,0⟩ ++ vidE ⟨0,0⟩) = _
    rw [hv]; rfl
  rw [encC_yes (by decide) (by rw [hb]; decide),hb]
theorem awk_big:bigF (GFrame.mk 1 1 (GViewID.mk 0 0) 0 (GViewID.mk 0 0) (GViewID.mk 0 0) [] 0 [] [] 0 0) ≤ 1000000000:=by
  have h1:=vid00
  have h2:=ms00
  have h3:=it00
  have h4:=st00
  unfold bigF
  show (vidE ⟨0,0⟩).length + (vidE ⟨0,0⟩).length + (vidE ⟨0,0⟩).length + (statesE []).length + (msgsE []).length + (itemsE []).length ≤ _
  omega
theorem awk_len:(seal_ [1,1,0,0,0,0]).length = 10:=by rw [seal_length]; rfl
theorem awk_take:(seal_ [1,1,0,0,0,0]).take 6 = [1,1,0,0,0,0]:=by unfold seal_; rfl
theorem encC_len (f:GFrame):(encC f).1.length ≤ 1048576:=by
  unfold encC
  split
  · split
    · exact Nat.zero_le _
    · show (seal_ (bodyE f)).length ≤ _; rw [seal_length]; omega
  · exact Nat.zero_le _
def zT {α:Type} (g:α → Nat) (l:List α) (i:Nat):Nat:=((l.take i).map g).sum
theorem zT_next {α:Type} {g:α → Nat} {l:List α} {i:Nat} {e:α} (h:l[i]? = some e):zT g l (i + 1) = zT g l i + g e:=by
  unfold zT; rw [take_succ' h,List.map_append,List.sum_append]; simp
theorem zT_le {α:Type} (g:α → Nat) (l:List α) (i:Nat):zT g l i ≤ (l.map g).sum:=by
  have:(l.map g).sum = zT g l i + ((l.drop i).map g).sum:=by
    unfold zT; rw [← List.sum_append,← List.map_append,List.take_append_drop]
  omega
theorem zT_all {α:Type} {g:α → Nat} {l:List α} {i:Nat} (h:l.length ≤ i):zT g l i = (l.map g).sum:=by
  unfold zT; rw [List.take_of_length_le h]
def gM (x:GItem):Nat:=x.M.length
def gS (s:GState):Nat:=s.Items.length + (s.Items.map gM).sum
theorem sizeF_eq (f:GFrame):sizeF f = f.Msgs.length + f.Items.length + f.States.length + (f.Msgs.map List.length).sum + (f.Items.map gM).sum + (f.States.map gS).sum:=rfl
theorem great_is {f:GFrame} {n:Nat} (h:n = sizeF f):decide ((20000:Int) < ((n:Nat):Int)) = greatF f:=by
  unfold greatF; rw [h]; exact decide_eq_decide.2 (by omega)
end Go.FM

set_option linter.unusedVariables false
set_option linter.unusedSimpArgs false
namespace Go.FM
open Go
section
variable {f g:GFrame}
theorem sealed_len (hf:formC f = true) (h:bigF f ≤ 860100) (hb:FB f):4 ≤ (encC f).1.length∧(encC f).1.length = (bodyE f).length + 4:=by
  have hb':(bodyE f).length ≤ 860132:=by
    have:=bodyE_len f (uenc_len10 (by have:=hb.set; omega)) (uenc_len10 hb.base) (uenc_len10 hb.ack) (uenc_len10 hb.safe); omega
  rw [encC_yes hf (by omega)]
  show 4 ≤ (seal_ (bodyE f)).length∧(seal_ (bodyE f)).length = _
  rw [seal_length]; omega
theorem turned_sum {l:List Nat} (hl:Small (seal_ l)) {k pat m:Nat} (hm:m ≤ 32) (hk:k + m ≤ 8 * (seal_ l).length) (hlen:(seal_ l).length ≤ 1048576) (h:¬ bstr (turn (seal_ l) k pat m) = bstr (seal_ l)):(decA (turn (seal_ l) k pat m)).2 = 5:=by
  have hs:Small l:=fun b hb => hl b (by unfold seal_; exact List.mem_append_left _ hb)
  rw [seal_length] at hk
  have h5:(openL (turn (seal_ l) k pat m)).2 = 5:=Classical.byContradiction fun hn => h (burst_good hs hm hk hn)
  rw [decA_open (by rw [turn_length]; omega) (by rw [h5]; decide)]
  exact h5
theorem turned_or {l:List Nat} (hl:Small (seal_ l)) {k pat m:Nat} (hm:m ≤ 32) (hk:k + m ≤ 8 * (seal_ l).length) (hlen:(seal_ l).length ≤ 1048576):(decide (bstr (turn (seal_ l) k pat m) = bstr (seal_ l)) || decide ((decA (turn (seal_ l) k pat m)).2 = 5)) = true:=by
  by_cases h:bstr (turn (seal_ l) k pat m) = bstr (seal_ l)
  · rw [decide_eq_true h]; rfl
  · rw [decide_eq_false h,decide_eq_true (turned_sum hl hm hk hlen h)]; rfl
theorem mem_sum {α:Type} {k:α → Nat}:∀ {l:List α} {x:α},x ∈ l → k x ≤ (l.map k).sum
  | y::l,x,h => by
    rw [List.map_cons,List.sum_cons]
    rcases List.mem_cons.1 h with rfl | h
    · omega
    · have:=mem_sum (k:=k) h; omega
theorem size_parts (h:sizeF f ≤ 1048576):(∀ m ∈ f.Msgs,m.length ≤ 1048576)∧(∀ x ∈ f.Items,x.M.length ≤ 1048576)∧(∀ s ∈ f.States,s.Items.length ≤ 1048576∧∀ x ∈ s.Items,x.M.length ≤ 1048576)∧f.Msgs.length ≤ 1048576∧f.Items.length ≤ 1048576∧f.States.length ≤ 1048576:=by
  rw [sizeF_eq] at h
  refine ⟨fun m hm => ?_,fun x hx => ?_,fun s hs => ?_,by omega,by omega,by omega⟩
  · have:=mem_sum (k:=List.length) hm; omega
  · have:=mem_sum (k:=gM) hx; have:gM x = x.M.length:=rfl; omega
  · have h1:=mem_sum (k:=gS) hs
    have h2:gS s = s.Items.length + (s.Items.map gM).sum:=rfl
    refine ⟨by omega,fun x hx => ?_⟩
    have:=mem_sum (k:=gM) hx; have:gM x = x.M.length:=rfl; omega
theorem fb_of (h:sizeF f ≤ 1048576) (h1:f.ID.N < 18446744073709551616) (h2:f.Cur.N < 18446744073709551616) (h3:f.Prom.N < 18446744073709551616) (h4:f.Set < 65536) (h5:f.Base < 18446744073709551616) (h6:f.Ack < 18446744073709551616) (h7:f.Safe < 18446744073709551616) (hs:∀ s ∈ f.States,s.V.N < 18446744073709551616):FB f:=by
  obtain ⟨p1,p2,p3,_⟩:=size_parts h
  exact ⟨h1,h2,h3,h4,h5,h6,h7,p1,p2,fun s hm => ⟨hs s hm,(p3 s hm).2⟩⟩
theorem big_of (h:greatF f = false) (hs:sizeF f ≤ 1048576) (hb:FB f):bigF f ≤ 860100:=by
  obtain ⟨p1,p2,p3,p4,p5,p6⟩:=size_parts hs
  exact great_no h ⟨hb.id,hb.cur,hb.prom,fun m hm => by have:=p1 m hm; omega,fun x hx => by have:=p2 x hx; omega,fun s hm => ⟨(hb.states s hm).1,by have:=(p3 s hm).1; omega,fun x hx => by have:=(p3 s hm).2 x hx; omega⟩⟩ (by omega) (by omega) (by omega)
theorem body_short (h:bigF f ≤ 860100) (hb:FB f):(bodyE f).length ≤ 860132:=by
  have:=bodyE_len f (uenc_len10 (by have:=hb.set; omega)) (uenc_len10 hb.base) (uenc_len10 hb.ack) (uenc_len10 hb.safe)
  omega
theorem enc_is (hf:formC f = true) (h:bigF f ≤ 860100) (hb:FB f):encC f = (seal_ (bodyE f),0):=encC_yes hf (by have:=body_short h hb; omega)
theorem seal_inj {a b:List Nat} (h:seal_ a = seal_ b):a = b:=by
  have:=open_seal a
  rw [h,open_seal] at this
  injection this with this
  exact this.symm
theorem apart (hf:formC f = true) (h:bigF f ≤ 860100) (hb:FB f) (hg:formC g = true) (h':bigF g ≤ 860100) (hb':FB g):((encC f).1 = (encC g).1) ↔ f = g:=by
  rw [enc_is hf h hb,enc_is hg h' hb']
  exact ⟨fun e => body_inj hf hg hb hb' (seal_inj e),fun e => by rw [e]⟩
end
end Go.FM

set_option linter.unusedVariables false
set_option linter.unusedSimpArgs false
namespace Go.FM
open Go
def zIt (x:GItem):Nat:=x.M.length
def zSt (s:GState):Nat:=zL zIt s.Items
def zFr (f:GFrame):Nat:=zL zSt f.States + zL List.length f.Msgs + zL zIt f.Items
theorem zL_sum {α:Type} (z:α → Nat) (l:List α):zL z l = l.length + (l.map z).sum:=by
  unfold zL
  induction l with
  | nil => rfl
  | cons a l ih => rw [List.map_cons,List.sum_cons,ih,List.map_cons,List.sum_cons,List.length_cons]; omega
theorem size_zFr (f:GFrame):sizeF f = zFr f:=by
  have h:(f.States.map zSt).sum = (f.States.map gS).sum:=by
    congr 1; apply List.map_congr_left; intro s _; unfold zSt gS; rw [zL_sum]; rfl
  unfold zFr
  rw [sizeF_eq,zL_sum,zL_sum,zL_sum,h]
  show _ = _ + _ + (_ + _) + (_ + (f.Items.map gM).sum)
  omega
theorem Sl.mem_rep {α:Type} {d:Kd α} {H:Hp} {A:Option Addr} {n c:Nat} {xs:List α} (h:Sl d H A n c xs) {x:α} (hx:x ∈ xs):∃ cs,d.rep H x cs:=by
  obtain ⟨cells,_,h2⟩:=h.sl
  obtain ⟨j,hj,rfl⟩:=List.mem_iff_getElem.1 hx
  obtain ⟨c',h3,_⟩:=h2.2 j _ (List.getElem?_eq_getElem hj)
  exact ⟨c',h3⟩
theorem fr_fb {H:Hp} {f:GFrame} {cs:List Value} (h:kFrame.rep H f cs) (hz:sizeF f ≤ 1048576):FB f:=by
  obtain ⟨A1,n2,c3,A4,n5,c6,A7,n8,c9,rfl,h0,h1,h2,h3,h4,h5,h6,h7,h8,h9,h10,h11,h12,h13,h14⟩:=h
  refine fb_of hz h2 h5 h7 h4 h10 h13 h14 fun s hs => ?_
  obtain ⟨c,A,n,k,_,hN,_⟩:=Sl.mem_rep h9 hs
  exact hN
end Go.FM

set_option linter.unusedVariables false
set_option linter.unusedSimpArgs false
namespace Go.Proofs.Ytlfihfmmhhcigaa
open Go Go.FM Go.Proofs Go.ChangeShapes Go.WideShapes Go.ChangeAt Go.RowKit
theorem own:ownKnob Try.prog.godebug = none:=by kernel_rfl
theorem laidOut:laidOutB Try.prog = true:=by kernel_rfl
theorem blk {H:Type}:Blk (Hh:=H) Rows.uptoBulk Rows.uptoBulkAll where
  nil:=by simp [Rows.uptoBulkAll]
  cons d l:=by simp [Rows.uptoBulkAll]
  one d:=by
    cases d with
    | lit l => cases l <;> simp [Rows.uptoBulk]
    | _ => simp [Rows.uptoBulk]
  slice e s:=by simp only [Rows.uptoBulk]; omega
  agg p:=by simp only [Rows.uptoBulk]; omega
theorem opnz5:OpnZ Try.prog 5 (kU .u8 256 1 (by decide)) (fun _ => 0):=opnz_nat Try.underlying5 rfl rfl
theorem opnz3:OpnZ Try.prog 3 kI (fun _ => 0):=opnz_i64 Try.underlying3
theorem opnz22:OpnZ Try.prog 22 (kU .u64 18446744073709551616 8 (by decide)) (fun _ => 0):=opnz_nat Try.underlying22 rfl rfl
theorem opnz24:OpnZ Try.prog 24 kViewID (fun _ => 0):=fun {Hh bk bkA} hb {enc W fuel cs x} h hw => by
  obtain ⟨hl,xs,hxl,hbk,hp⟩:=opnz_parts hb Try.underlying24 h hw
  rw [show Try.prog.cellsOf 24 = 2 from by kernel_rfl] at hl
  have y0:xs.length = 2:=hxl
  obtain ⟨x0,xr0,rfl,y1,e0z⟩:=bk_cons (n:=1) hb _ y0
  obtain ⟨x1,xr1,rfl,y2,e1z⟩:=bk_cons (n:=0) hb _ y1
  have u0:cs.length = 2:=hl
  obtain ⟨v0,vr0,rfl,u1⟩:=len_cons (n:=1) _ u0
  obtain ⟨v1,vr1,rfl,u2⟩:=len_cons (n:=0) _ u1
  obtain rfl:=List.eq_nil_of_length_eq_zero u2
  obtain ⟨a0,r0,s0⟩:=hp 0 _ rfl opnz22
  have s0:=s0 x0 rfl
  have r0:(kU .u64 18446744073709551616 8 (by decide)).rep _ a0 (([v0,v1].drop 0).take (Try.prog.cellsOf 22)):=r0
  rw [show Try.prog.cellsOf 22 = 1 from by kernel_rfl] at r0
  have r0:(kU .u64 18446744073709551616 8 (by decide)).rep _ a0 [v0]:=r0
  obtain ⟨a1,r1,s1⟩:=hp 1 _ rfl opnz3
  have s1:=s1 x1 rfl
  have r1:kI.rep _ a1 (([v0,v1].drop 1).take (Try.prog.cellsOf 3)):=r1
  rw [show Try.prog.cellsOf 3 = 1 from by kernel_rfl] at r1
  have r1:kI.rep _ a1 [v1]:=r1
  obtain ⟨e0,b_1⟩:=r0
  try simp only [List.cons.injEq,and_true] at e0
  first | subst e0 | cases e0
  obtain ⟨e1,⟨b_101,b_102⟩⟩:=r1
  try simp only [List.cons.injEq,and_true] at e1
  first | subst e1 | cases e1
  refine ⟨GViewID.mk a0 a1,⟨rfl,b_1,⟨b_101,b_102⟩⟩,?_⟩
  have hz:(fun _ => 0) (GViewID.mk a0 a1) = 0:=rfl
  rw [hz]; omega
theorem opnz25:OpnZ Try.prog 25 (kU .u16 65536 2 (by decide)) (fun _ => 0):=opnz_nat Try.underlying25 rfl rfl
theorem opnz33:OpnZ Try.prog 33 kBs List.length:=opnz_bytes Try.underlying33 Try.underlying5 (by kernel_rfl) (by kernel_rfl)
theorem opnz49:OpnZ Try.prog 49 kItem zIt:=fun {Hh bk bkA} hb {enc W fuel cs x} h hw => by
  obtain ⟨hl,xs,hxl,hbk,hp⟩:=opnz_parts hb Try.underlying49 h hw
  rw [show Try.prog.cellsOf 49 = 2 from by kernel_rfl] at hl
  have y0:xs.length = 2:=hxl
  obtain ⟨x0,xr0,rfl,y1,e0z⟩:=bk_cons (n:=1) hb _ y0
  obtain ⟨x1,xr1,rfl,y2,e1z⟩:=bk_cons (n:=0) hb _ y1
  have u0:cs.length = 2:=hl
  obtain ⟨v0,vr0,rfl,u1⟩:=len_cons (n:=1) _ u0
  obtain ⟨v1,vr1,rfl,u2⟩:=len_cons (n:=0) _ u1
  obtain rfl:=List.eq_nil_of_length_eq_zero u2
  obtain ⟨a0,r0,s0⟩:=hp 0 _ rfl opnz3
  have s0:=s0 x0 rfl
  have r0:kI.rep _ a0 (([v0,v1].drop 0).take (Try.prog.cellsOf 3)):=r0
  rw [show Try.prog.cellsOf 3 = 1 from by kernel_rfl] at r0
  have r0:kI.rep _ a0 [v0]:=r0
  obtain ⟨a1,r1,s1⟩:=hp 1 _ rfl opnz33
  have s1:=s1 x1 rfl
  have r1:kBs.rep _ a1 (([v0,v1].drop 1).take (Try.prog.cellsOf 33)):=r1
  rw [show Try.prog.cellsOf 33 = 1 from by kernel_rfl] at r1
  have r1:kBs.rep _ a1 [v1]:=r1
  obtain ⟨e0,⟨b_1,b_2⟩⟩:=r0
  try simp only [List.cons.injEq,and_true] at e0
  first | subst e0 | cases e0
  obtain ⟨A_101,n_102,c_103,e1,hy_104⟩:=r1
  try simp only [List.cons.injEq,and_true] at e1
  first | subst e1 | cases e1
  refine ⟨GItem.mk a0 a1,⟨A_101,n_102,c_103,rfl,⟨b_1,b_2⟩,hy_104⟩,?_⟩
  have hz:zIt (GItem.mk a0 a1) = List.length a1:=rfl
  rw [hz]; omega
theorem opnz28:OpnZ Try.prog 28 (kSl kItem) (zL zIt):=opnz_sl Try.underlying28 (by kernel_rfl) (by kernel_rfl) opnz49
theorem opnz52:OpnZ Try.prog 52 kState zSt:=fun {Hh bk bkA} hb {enc W fuel cs x} h hw => by
  obtain ⟨hl,xs,hxl,hbk,hp⟩:=opnz_parts hb Try.underlying52 h hw
  rw [show Try.prog.cellsOf 52 = 4 from by kernel_rfl] at hl
  have y0:xs.length = 3:=hxl
  obtain ⟨x0,xr0,rfl,y1,e0z⟩:=bk_cons (n:=2) hb _ y0
  obtain ⟨x1,xr1,rfl,y2,e1z⟩:=bk_cons (n:=1) hb _ y1
  obtain ⟨x2,xr2,rfl,y3,e2z⟩:=bk_cons (n:=0) hb _ y2
  have u0:cs.length = 4:=hl
  obtain ⟨v0,vr0,rfl,u1⟩:=len_cons (n:=3) _ u0
  obtain ⟨v1,vr1,rfl,u2⟩:=len_cons (n:=2) _ u1
  obtain ⟨v2,vr2,rfl,u3⟩:=len_cons (n:=1) _ u2
  obtain ⟨v3,vr3,rfl,u4⟩:=len_cons (n:=0) _ u3
  obtain rfl:=List.eq_nil_of_length_eq_zero u4
  obtain ⟨a0,r0,s0⟩:=hp 0 _ rfl opnz24
  have s0:=s0 x0 rfl
  have r0:kViewID.rep _ a0 (([v0,v1,v2,v3].drop 0).take (Try.prog.cellsOf 24)):=r0
  rw [show Try.prog.cellsOf 24 = 2 from by kernel_rfl] at r0
  have r0:kViewID.rep _ a0 [v0,v1]:=r0
  obtain ⟨a1,r1,s1⟩:=hp 1 _ rfl opnz3
  have s1:=s1 x1 rfl
  have r1:kI.rep _ a1 (([v0,v1,v2,v3].drop 2).take (Try.prog.cellsOf 3)):=r1
  rw [show Try.prog.cellsOf 3 = 1 from by kernel_rfl] at r1
  have r1:kI.rep _ a1 [v2]:=r1
  obtain ⟨a2,r2,s2⟩:=hp 2 _ rfl opnz28
  have s2:=s2 x2 rfl
  have r2:(kSl kItem).rep _ a2 (([v0,v1,v2,v3].drop 3).take (Try.prog.cellsOf 28)):=r2
  rw [show Try.prog.cellsOf 28 = 1 from by kernel_rfl] at r2
  have r2:(kSl kItem).rep _ a2 [v3]:=r2
  obtain ⟨e0,b_1,⟨b_2,b_3⟩⟩:=r0
  try simp only [List.cons.injEq,and_true] at e0
  first | (obtain ⟨rfl,rfl⟩:=e0) | cases e0
  obtain ⟨e1,⟨b_101,b_102⟩⟩:=r1
  try simp only [List.cons.injEq,and_true] at e1
  first | subst e1 | cases e1
  obtain ⟨A_201,n_202,c_203,e2,hl_204⟩:=r2
  try simp only [List.cons.injEq,and_true] at e2
  first | subst e2 | cases e2
  refine ⟨GState.mk a0 a1 a2,⟨A_201,n_202,c_203,rfl,b_1,⟨b_2,b_3⟩,⟨b_101,b_102⟩,hl_204⟩,?_⟩
  have hz:zSt (GState.mk a0 a1 a2) = (zL zIt) a2:=rfl
  rw [hz]; omega
theorem opnz26:OpnZ Try.prog 26 (kSl kState) (zL zSt):=opnz_sl Try.underlying26 (by kernel_rfl) (by kernel_rfl) opnz52
theorem opnz27:OpnZ Try.prog 27 (kSl kBs) (zL List.length):=opnz_sl Try.underlying27 (by kernel_rfl) (by kernel_rfl) opnz33
theorem opnz30:OpnZ Try.prog 30 kFrame zFr:=fun {Hh bk bkA} hb {enc W fuel cs x} h hw => by
  obtain ⟨hl,xs,hxl,hbk,hp⟩:=opnz_parts hb Try.underlying30 h hw
  rw [show Try.prog.cellsOf 30 = 15 from by kernel_rfl] at hl
  have y0:xs.length = 12:=hxl
  obtain ⟨x0,xr0,rfl,y1,e0z⟩:=bk_cons (n:=11) hb _ y0
  obtain ⟨x1,xr1,rfl,y2,e1z⟩:=bk_cons (n:=10) hb _ y1
  obtain ⟨x2,xr2,rfl,y3,e2z⟩:=bk_cons (n:=9) hb _ y2
  obtain ⟨x3,xr3,rfl,y4,e3z⟩:=bk_cons (n:=8) hb _ y3
  obtain ⟨x4,xr4,rfl,y5,e4z⟩:=bk_cons (n:=7) hb _ y4
  obtain ⟨x5,xr5,rfl,y6,e5z⟩:=bk_cons (n:=6) hb _ y5
  obtain ⟨x6,xr6,rfl,y7,e6z⟩:=bk_cons (n:=5) hb _ y6
  obtain ⟨x7,xr7,rfl,y8,e7z⟩:=bk_cons (n:=4) hb _ y7
  obtain ⟨x8,xr8,rfl,y9,e8z⟩:=bk_cons (n:=3) hb _ y8
  obtain ⟨x9,xr9,rfl,y10,e9z⟩:=bk_cons (n:=2) hb _ y9
  obtain ⟨x10,xr10,rfl,y11,e10z⟩:=bk_cons (n:=1) hb _ y10
  obtain ⟨x11,xr11,rfl,y12,e11z⟩:=bk_cons (n:=0) hb _ y11
  have u0:cs.length = 15:=hl
  obtain ⟨v0,vr0,rfl,u1⟩:=len_cons (n:=14) _ u0
  obtain ⟨v1,vr1,rfl,u2⟩:=len_cons (n:=13) _ u1
  obtain ⟨v2,vr2,rfl,u3⟩:=len_cons (n:=12) _ u2
  obtain ⟨v3,vr3,rfl,u4⟩:=len_cons (n:=11) _ u3
  obtain ⟨v4,vr4,rfl,u5⟩:=len_cons (n:=10) _ u4
  obtain ⟨v5,vr5,rfl,u6⟩:=len_cons (n:=9) _ u5
  obtain ⟨v6,vr6,rfl,u7⟩:=len_cons (n:=8) _ u6
  obtain ⟨v7,vr7,rfl,u8⟩:=len_cons (n:=7) _ u7
  obtain ⟨v8,vr8,rfl,u9⟩:=len_cons (n:=6) _ u8
  obtain ⟨v9,vr9,rfl,u10⟩:=len_cons (n:=5) _ u9
  obtain ⟨v10,vr10,rfl,u11⟩:=len_cons (n:=4) _ u10
  obtain ⟨v11,vr11,rfl,u12⟩:=len_cons (n:=3) _ u11
  obtain ⟨v12,vr12,rfl,u13⟩:=len_cons (n:=2) _ u12
  obtain ⟨v13,vr13,rfl,u14⟩:=len_cons (n:=1) _ u13
  obtain ⟨v14,vr14,rfl,u15⟩:=len_cons (n:=0) _ u14
  obtain rfl:=List.eq_nil_of_length_eq_zero u15
  obtain ⟨a0,r0,s0⟩:=hp 0 _ rfl opnz5
  have s0:=s0 x0 rfl
  have r0:(kU .u8 256 1 (by decide)).rep _ a0 (([v0,v1,v2,v3,v4,v5,v6,v7,v8,v9,v10,v11,v12,v13,v14].drop 0).take (Try.prog.cellsOf 5)):=r0
  rw [show Try.prog.cellsOf 5 = 1 from by kernel_rfl] at r0
  have r0:(kU .u8 256 1 (by decide)).rep _ a0 [v0]:=r0
  obtain ⟨a1,r1,s1⟩:=hp 1 _ rfl opnz3
  have s1:=s1 x1 rfl
  have r1:kI.rep _ a1 (([v0,v1,v2,v3,v4,v5,v6,v7,v8,v9,v10,v11,v12,v13,v14].drop 1).take (Try.prog.cellsOf 3)):=r1
  rw [show Try.prog.cellsOf 3 = 1 from by kernel_rfl] at r1
  have r1:kI.rep _ a1 [v1]:=r1
  obtain ⟨a2,r2,s2⟩:=hp 2 _ rfl opnz24
  have s2:=s2 x2 rfl
  have r2:kViewID.rep _ a2 (([v0,v1,v2,v3,v4,v5,v6,v7,v8,v9,v10,v11,v12,v13,v14].drop 2).take (Try.prog.cellsOf 24)):=r2
  rw [show Try.prog.cellsOf 24 = 2 from by kernel_rfl] at r2
  have r2:kViewID.rep _ a2 [v2,v3]:=r2
  obtain ⟨a3,r3,s3⟩:=hp 3 _ rfl opnz25
  have s3:=s3 x3 rfl
  have r3:(kU .u16 65536 2 (by decide)).rep _ a3 (([v0,v1,v2,v3,v4,v5,v6,v7,v8,v9,v10,v11,v12,v13,v14].drop 4).take (Try.prog.cellsOf 25)):=r3
  rw [show Try.prog.cellsOf 25 = 1 from by kernel_rfl] at r3
  have r3:(kU .u16 65536 2 (by decide)).rep _ a3 [v4]:=r3
  obtain ⟨a4,r4,s4⟩:=hp 4 _ rfl opnz24
  have s4:=s4 x4 rfl
  have r4:kViewID.rep _ a4 (([v0,v1,v2,v3,v4,v5,v6,v7,v8,v9,v10,v11,v12,v13,v14].drop 5).take (Try.prog.cellsOf 24)):=r4
  rw [show Try.prog.cellsOf 24 = 2 from by kernel_rfl] at r4
  have r4:kViewID.rep _ a4 [v5,v6]:=r4
  obtain ⟨a5,r5,s5⟩:=hp 5 _ rfl opnz24
  have s5:=s5 x5 rfl
  have r5:kViewID.rep _ a5 (([v0,v1,v2,v3,v4,v5,v6,v7,v8,v9,v10,v11,v12,v13,v14].drop 7).take (Try.prog.cellsOf 24)):=r5
  rw [show Try.prog.cellsOf 24 = 2 from by kernel_rfl] at r5
  have r5:kViewID.rep _ a5 [v7,v8]:=r5
  obtain ⟨a6,r6,s6⟩:=hp 6 _ rfl opnz26
  have s6:=s6 x6 rfl
  have r6:(kSl kState).rep _ a6 (([v0,v1,v2,v3,v4,v5,v6,v7,v8,v9,v10,v11,v12,v13,v14].drop 9).take (Try.prog.cellsOf 26)):=r6
  rw [show Try.prog.cellsOf 26 = 1 from by kernel_rfl] at r6
  have r6:(kSl kState).rep _ a6 [v9]:=r6
  obtain ⟨a7,r7,s7⟩:=hp 7 _ rfl opnz22
  have s7:=s7 x7 rfl
  have r7:(kU .u64 18446744073709551616 8 (by decide)).rep _ a7 (([v0,v1,v2,v3,v4,v5,v6,v7,v8,v9,v10,v11,v12,v13,v14].drop 10).take (Try.prog.cellsOf 22)):=r7
  rw [show Try.prog.cellsOf 22 = 1 from by kernel_rfl] at r7
  have r7:(kU .u64 18446744073709551616 8 (by decide)).rep _ a7 [v10]:=r7
  obtain ⟨a8,r8,s8⟩:=hp 8 _ rfl opnz27
  have s8:=s8 x8 rfl
  have r8:(kSl kBs).rep _ a8 (([v0,v1,v2,v3,v4,v5,v6,v7,v8,v9,v10,v11,v12,v13,v14].drop 11).take (Try.prog.cellsOf 27)):=r8
  rw [show Try.prog.cellsOf 27 = 1 from by kernel_rfl] at r8
  have r8:(kSl kBs).rep _ a8 [v11]:=r8
  obtain ⟨a9,r9,s9⟩:=hp 9 _ rfl opnz28
  have s9:=s9 x9 rfl
  have r9:(kSl kItem).rep _ a9 (([v0,v1,v2,v3,v4,v5,v6,v7,v8,v9,v10,v11,v12,v13,v14].drop 12).take (Try.prog.cellsOf 28)):=r9
  rw [show Try.prog.cellsOf 28 = 1 from by kernel_rfl] at r9
  have r9:(kSl kItem).rep _ a9 [v12]:=r9
  obtain ⟨a10,r10,s10⟩:=hp 10 _ rfl opnz22
  have s10:=s10 x10 rfl
  have r10:(kU .u64 18446744073709551616 8 (by decide)).rep _ a10 (([v0,v1,v2,v3,v4,v5,v6,v7,v8,v9,v10,v11,v12,v13,v14].drop 13).take (Try.prog.cellsOf 22)):=r10
  rw [show Try.prog.cellsOf 22 = 1 from by kernel_rfl] at r10
  have r10:(kU .u64 18446744073709551616 8 (by decide)).rep _ a10 [v13]:=r10
  obtain ⟨a11,r11,s11⟩:=hp 11 _ rfl opnz22
  have s11:=s11 x11 rfl
  have r11:(kU .u64 18446744073709551616 8 (by decide)).rep _ a11 (([v0,v1,v2,v3,v4,v5,v6,v7,v8,v9,v10,v11,v12,v13,v14].drop 14).take (Try.prog.cellsOf 22)):=r11
  rw [show Try.prog.cellsOf 22 = 1 from by kernel_rfl] at r11
  have r11:(kU .u64 18446744073709551616 8 (by decide)).rep _ a11 [v14]:=r11
  obtain ⟨e0,b_1⟩:=r0
  try simp only [List.cons.injEq,and_true] at e0
  first | subst e0 | cases e0
  obtain ⟨e1,⟨b_101,b_102⟩⟩:=r1
  try simp only [List.cons.injEq,and_true] at e1
  first | subst e1 | cases e1
  obtain ⟨e2,b_201,⟨b_202,b_203⟩⟩:=r2
  try simp only [List.cons.injEq,and_true] at e2
  first | (obtain ⟨rfl,rfl⟩:=e2) | cases e2
  obtain ⟨e3,b_301⟩:=r3
  try simp only [List.cons.injEq,and_true] at e3
  first | subst e3 | cases e3
  obtain ⟨e4,b_401,⟨b_402,b_403⟩⟩:=r4
  try simp only [List.cons.injEq,and_true] at e4
  first | (obtain ⟨rfl,rfl⟩:=e4) | cases e4
  obtain ⟨e5,b_501,⟨b_502,b_503⟩⟩:=r5
  try simp only [List.cons.injEq,and_true] at e5
  first | (obtain ⟨rfl,rfl⟩:=e5) | cases e5
  obtain ⟨A_601,n_602,c_603,e6,hl_604⟩:=r6
  try simp only [List.cons.injEq,and_true] at e6
  first | subst e6 | cases e6
  obtain ⟨e7,b_701⟩:=r7
  try simp only [List.cons.injEq,and_true] at e7
  first | subst e7 | cases e7
  obtain ⟨A_801,n_802,c_803,e8,hl_804⟩:=r8
  try simp only [List.cons.injEq,and_true] at e8
  first | subst e8 | cases e8
  obtain ⟨A_901,n_902,c_903,e9,hl_904⟩:=r9
  try simp only [List.cons.injEq,and_true] at e9
  first | subst e9 | cases e9
  obtain ⟨e10,b_1001⟩:=r10
  try simp only [List.cons.injEq,and_true] at e10
  first | subst e10 | cases e10
  obtain ⟨e11,b_1101⟩:=r11
  try simp only [List.cons.injEq,and_true] at e11
  first | subst e11 | cases e11
  refine ⟨GFrame.mk a0 a1 a2 a3 a4 a5 a6 a7 a8 a9 a10 a11,⟨A_601,n_602,c_603,A_801,n_802,c_803,A_901,n_902,c_903,rfl,b_1,⟨b_101,b_102⟩,b_201,⟨b_202,b_203⟩,b_301,b_401,⟨b_402,b_403⟩,b_501,⟨b_502,b_503⟩,hl_604,b_701,hl_804,hl_904,b_1001,b_1101⟩,?_⟩
  have hz:zFr (GFrame.mk a0 a1 a2 a3 a4 a5 a6 a7 a8 a9 a10 a11) = (zL zSt) a6 + (zL List.length) a8 + (zL zIt) a9:=rfl
  rw [hz]; omega
end Go.Proofs.Ytlfihfmmhhcigaa
