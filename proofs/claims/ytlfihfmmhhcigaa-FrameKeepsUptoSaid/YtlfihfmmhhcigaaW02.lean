/- Steps of the proofs over the functions of this seat, printed by a program (gen.py) and checked by Lean. -/
import Derived.Test.YtlfihfmmhhcigaaW01
import Derived.Deep.CondSized
import Derived.OpenShut
import Derived.JoinedCond
import Derived.Test.YtlfihfmmhhcigaaRows
import Derived.Test.YtlfihfmmhhcigaaProg
import Derived.Test.YtlfihfmmhhcigaaW00
import Derived.Lib.AppendZerosOnto
import Derived.Lib.Overlaps
set_option linter.unusedVariables false
set_option linter.unusedSimpArgs false
namespace Go.FM
open Go
theorem rdB_len (bs:List Nat) (b:Bool) (most:Int):(rdB bs b most).2.1.length ≤ bs.length:=by
  have:=rdI_len bs b most
  unfold rdB
  split
  · exact this
  · show ((rdI bs b most).2.1.drop _).length ≤ _; rw [List.length_drop]; omega
theorem rdI_most (bs:List Nat) (b:Bool) (most:Int) (h0:0 ≤ most):((rdI bs b most).1:Int) ≤ most:=by
  by_cases h:(rdU bs b).2.2 = true ∨ most < 0 ∨ most < ((rdU bs b).1:Int)
  · rw [rdI_bad h]; exact h0
  · have h1:(rdU bs b).2.2 = false:=by cases hq:(rdU bs b).2.2 with | false => rfl | true => exact absurd (.inl hq) h
    rw [rdI_good h1 (fun hh => h (.inr (.inl hh))) (fun hh => h (.inr (.inr hh)))]
    exact Int.not_lt.1 fun hh => h (.inr (.inr hh))
theorem rdB_most (bs:List Nat) (b:Bool) (most:Int) (h0:0 ≤ most):(((rdB bs b most).1.length:Nat):Int) ≤ most:=by
  have:=rdI_most bs b most h0
  unfold rdB
  split
  · exact h0
  · show ((((rdI bs b most).2.1.take _).length:Nat):Int) ≤ _; rw [List.length_take]; omega
theorem openL_le (b:List Nat):(openL b).1.length ≤ b.length:=by
  unfold openL
  split
  · exact Nat.zero_le _
  · split
    · rw [List.length_take]; omega
    · exact Nat.zero_le _
section
variable {bs cur:List Nat} {b bad:Bool} {q q1 q2:Nat × List Nat × Bool}
theorem vc_no (h1:q1 = rdU bs b) (h2:q2 = rdI q1.2.1 q1.2.2 15) (h:q2.2.2 = true ∨ formVI ⟨q1.1,(q2.1:Int)⟩ = false):((GViewID.mk 0 0,false),q2.2) = rdVC bs b:=by
  subst h1 h2
  unfold rdVC
  rw [if_neg (fun hc => by
    rcases h with h | h
    · have:(rdV bs b).2.2 = true:=h
      rw [hc.1] at this; cases this
    · have:formVI (rdV bs b).1 = false:=h
      rw [hc.2] at this; cases this)]
  rfl
theorem vc_yes (h1:q1 = rdU bs b) (h2:q2 = rdI q1.2.1 q1.2.2 15) (hb:q2.2.2 = false) (h:formVI ⟨q1.1,(q2.1:Int)⟩ = true):((GViewID.mk q1.1 (q2.1:Int),true),q2.2) = rdVC bs b:=by
  subst h1 h2
  unfold rdVC
  rw [if_pos ⟨hb,h⟩]
  rfl
variable {l:List GItem} {k:Int} {m:List Nat × List Nat × Bool}
def ItInv (bs:List Nat) (b:Bool) (l:List GItem) (k:Int) (cur:List Nat) (bad:Bool):Prop:=rdItems bs b = (l ++ (rlist rdItem k.toNat cur bad).1,(rlist rdItem k.toNat cur bad).2)
theorem it_start (h:q = rdI bs b 4096):ItInv bs b [] ((q.1:Nat):Int) q.2.1 q.2.2:=by subst h; rfl
theorem it_step (hi:ItInv bs b l k cur bad) (hk:0 < k) (hb:bad = false) (h1:q1 = rdI cur bad 15) (h2:m = rdB q1.2.1 q1.2.2 1048576):ItInv bs b (l ++ [⟨(q1.1:Int),m.1⟩]) (k - 1) m.2.1 m.2.2:=by
  subst h1 h2 hb
  unfold ItInv at hi ⊢
  rw [hi,show k.toNat = (k - 1).toNat + 1 by omega,rlist,if_neg (by decide)]
  rw [List.append_assoc]
  rfl
theorem it_done (hi:ItInv bs b l k cur bad) (h:k ≤ 0 ∨ bad = true):(l,cur,bad) = rdItems bs b:=by
  unfold ItInv at hi
  rw [hi]
  rcases h with h | h
  · rw [show k.toNat = 0 by omega]; simp [rlist]
  · subst h
    have:∀ n,rlist rdItem n cur true = ([],cur,true):=fun n => by cases n with | zero => rfl | succ n => rw [rlist,if_pos rfl]
    rw [this]; simp
variable {t:List GState} {v:(GViewID × Bool) × List Nat × Bool} {i:List GItem × List Nat × Bool}
theorem stC_is (h1:v = rdVC cur bad) (h2:q1 = rdI v.2.1 v.2.2 1073741824) (h3:i = rdItems q1.2.1 q1.2.2):stC cur bad = ((GState.mk v.1.1 (q1.1:Int) i.1,v.1.2 && sForm (GState.mk v.1.1 (q1.1:Int) i.1)),i.2):=by subst h1 h2 h3; rfl
def StInv (bs:List Nat) (b:Bool) (t:List GState) (k:Int) (cur:List Nat) (bad:Bool):Prop :=
  stsC (rdI bs b 4096).1 (rdI bs b 4096).2.1 (rdI bs b 4096).2.2 = ((t ++ (stsC k.toNat cur bad).1.1,(stsC k.toNat cur bad).1.2),(stsC k.toNat cur bad).2)
theorem st_start (h:q = rdI bs b 4096):StInv bs b [] ((q.1:Nat):Int) q.2.1 q.2.2:=by subst h; rfl
theorem st_step (hi:StInv bs b t k cur bad) (hk:0 < k) (hb:bad = false) (h1:v = rdVC cur bad) (h2:q1 = rdI v.2.1 v.2.2 1073741824) (h3:i = rdItems q1.2.1 q1.2.2) (h4:v.1.2 = true) (h5:sForm (GState.mk v.1.1 (q1.1:Int) i.1) = true):StInv bs b (t ++ [GState.mk v.1.1 (q1.1:Int) i.1]) (k - 1) i.2.1 i.2.2:=by
  have hc:=stC_is h1 h2 h3
  subst hb
  unfold StInv at hi ⊢
  rw [hi,show k.toNat = (k - 1).toNat + 1 by omega,stsC,if_neg (by decide),hc,if_pos (by show (v.1.2 && _) = true; rw [h4,h5]; rfl)]
  show ((t ++ (_::_),_),_) = ((t ++ [_] ++ _,_),_)
  rw [List.append_assoc]
  rfl
theorem st_no (hi:StInv bs b t k cur bad) (hk:0 < k) (hb:bad = false) (h1:v = rdVC cur bad) (h2:q1 = rdI v.2.1 v.2.2 1073741824) (h3:i = rdItems q1.2.1 q1.2.2) (h4:v.1.2 = false ∨ sForm (GState.mk v.1.1 (q1.1:Int) i.1) = false):(([],false),i.2) = statesC bs b:=by
  have hc:=stC_is h1 h2 h3
  subst hb
  unfold StInv at hi
  have e:stsC k.toNat cur false = (([],false),i.2):=by
    rw [show k.toNat = (k - 1).toNat + 1 by omega,stsC,if_neg (fun h => Bool.noConfusion h),hc,if_neg (by show ¬ (v.1.2 && _) = true; rcases h4 with h4 | h4 <;> rw [h4] <;> simp)]
  unfold statesC
  rw [hi,e,if_neg (fun h => Bool.noConfusion h)]
theorem st_done (hi:StInv bs b t k cur bad) (h:k ≤ 0 ∨ bad = true):((t,true),cur,bad) = statesC bs b:=by
  unfold StInv at hi
  have:stsC k.toNat cur bad = (([],true),cur,bad):=by
    rcases h with h | h
    · rw [show k.toNat = 0 by omega]; rfl
    · subst h; cases k.toNat with | zero => rfl | succ n => rw [stsC,if_pos rfl]
  unfold statesC
  rw [hi,this]
  simp
variable {ms:List (List Nat)}
def MsInv (bs:List Nat) (b:Bool) (l:List (List Nat)) (k:Int) (cur:List Nat) (bad:Bool):Prop:=rdMsgs bs b = (l ++ (rlist rB k.toNat cur bad).1,(rlist rB k.toNat cur bad).2)
theorem ms_start (h:q = rdI bs b 4096):MsInv bs b [] ((q.1:Nat):Int) q.2.1 q.2.2:=by subst h; rfl
theorem ms_step (hi:MsInv bs b ms k cur bad) (hk:0 < k) (hb:bad = false) (h2:m = rdB cur bad 1048576):MsInv bs b (ms ++ [m.1]) (k - 1) m.2.1 m.2.2:=by
  subst h2 hb
  unfold MsInv at hi ⊢
  rw [hi,show k.toNat = (k - 1).toNat + 1 by omega,rlist,if_neg (by decide)]
  rw [List.append_assoc]
  rfl
theorem ms_done (hi:MsInv bs b ms k cur bad) (h:k ≤ 0 ∨ bad = true):(ms,cur,bad) = rdMsgs bs b:=by
  unfold MsInv at hi
  rw [hi]
  rcases h with h | h
  · rw [show k.toNat = 0 by omega]; simp [rlist]
  · subst h
    have:∀ n,rlist rB n cur true = ([],cur,true):=fun n => by cases n with | zero => rfl | succ n => rw [rlist,if_pos rfl]
    rw [this]; simp
variable {p:List Nat} {K F:Nat} {kk f s u1 u2 u3:Nat × List Nat × Bool} {c c2 vi:(GViewID × Bool) × List Nat × Bool} {ts:(List GState × Bool) × List Nat × Bool}
theorem dec_head (h:decA bs = decP p) (hk:kk = rdI p false 255) (hf:f = rdI kk.2.1 kk.2.2 15):decA bs = decF kk.1 f:=by rw [h]; subst hk hf; rfl
theorem dec_1 (h:decA bs = decF K f) (hK:K = 1) (hc:c = rdVC f.2.1 f.2.2) (hp:c2 = rdVC c.2.1 c.2.2):decA bs = finC ⟨K,f.1,⟨0,0⟩,0,c.1.1,c2.1.1,[],0,[],[],0,0⟩ c.1.2 c2.1.2 c2.2:=by
  rw [h]; subst hK hp hc; unfold decF; rw [if_pos rfl]; rfl
theorem dec_i (h:decA bs = decF K f) (hK:K ≠ 1) (hi:vi = rdVC f.2.1 f.2.2):decA bs = decK K f.1 vi:=by
  rw [h]; subst hi; unfold decF; rw [if_neg hK]
theorem dec_1' (h:decA bs = decF K f) (hK:K = 1) (hi:K = 1 → vi = ((⟨0,0⟩,true),f.2)) (hc:c = rdVC vi.2.1 vi.2.2) (hp:c2 = rdVC c.2.1 c.2.2):decA bs = finC ⟨K,f.1,vi.1.1,0,c.1.1,c2.1.1,[],0,[],[],0,0⟩ c.1.2 c2.1.2 c2.2:=by
  rw [hi hK] at hc ⊢; exact dec_1 h hK hc hp
theorem dec_i' (h:decA bs = decF K f) (hK:K ≠ 1) (hi:K ≠ 1 → vi = rdVC f.2.1 f.2.2):decA bs = decK K f.1 vi:=dec_i h hK (hi hK)
theorem dec_2 (h:decA bs = decK K F vi) (hK:K = 2) (hs:s = rdI vi.2.1 vi.2.2 65535):decA bs = finC ⟨K,F,vi.1.1,s.1,⟨0,0⟩,⟨0,0⟩,[],0,[],[],0,0⟩ vi.1.2 true s.2:=by
  rw [h]; subst hK hs; rfl
theorem dec_3 (h:decA bs = decK K F vi) (hK:K = 3) (hs:ts = statesC vi.2.1 vi.2.2):decA bs = finC ⟨K,F,vi.1.1,0,⟨0,0⟩,⟨0,0⟩,ts.1.1,0,[],[],0,0⟩ vi.1.2 ts.1.2 ts.2:=by
  rw [h]; subst hK hs; rfl
theorem dec_4 (h:decA bs = decK K F vi) (hK:K = 4) (hs:c = rdVC vi.2.1 vi.2.2):decA bs = finC ⟨K,F,vi.1.1,0,⟨0,0⟩,c.1.1,[],0,[],[],0,0⟩ vi.1.2 c.1.2 c.2:=by
  rw [h]; subst hK hs; rfl
theorem dec_5 (h:decA bs = decK K F vi) (hK:K = 5) (hs:s = rdI vi.2.1 vi.2.2 65535) (ht:ts = statesC s.2.1 s.2.2):decA bs = finC ⟨K,F,vi.1.1,s.1,⟨0,0⟩,⟨0,0⟩,ts.1.1,0,[],[],0,0⟩ vi.1.2 ts.1.2 ts.2:=by
  rw [h]; subst hK hs ht; rfl
theorem dec_6 (h:decA bs = decK K F vi) (hK:K = 6) (h1:u1 = rdU vi.2.1 vi.2.2) (h2:u2 = rdU u1.2.1 u1.2.2) (hm:(ms,cur,bad) = rdMsgs u2.2.1 u2.2.2):decA bs = finC ⟨K,F,vi.1.1,0,⟨0,0⟩,⟨0,0⟩,[],u1.1,ms,[],u2.1,0⟩ vi.1.2 true (cur,bad):=by
  have e:rseq rdU (rseq rdU rdMsgs) vi.2.1 vi.2.2 = ((u1.1,u2.1,ms),cur,bad):=by
    subst h1 h2
    unfold rseq
    rw [← hm]
  rw [h]; subst hK; unfold decK; rw [if_neg (by decide),if_neg (by decide),if_neg (by decide),if_neg (by decide),if_pos rfl,e]; rfl
theorem dec_7 (h:decA bs = decK K F vi) (hK:K = 7) (h1:u1 = rdU vi.2.1 vi.2.2) (h2:u2 = rdU u1.2.1 u1.2.2) (h3:u3 = rdU u2.2.1 u2.2.2) (hm:i = rdItems u3.2.1 u3.2.2):decA bs = finC ⟨K,F,vi.1.1,0,⟨0,0⟩,⟨0,0⟩,[],u1.1,[],i.1,u2.1,u3.1⟩ vi.1.2 true i.2:=by
  rw [h]; subst hK h1 h2 h3 hm; rfl
theorem dec_0 (h:decA bs = decK K F vi) (h2:K ≠ 2) (h3:K ≠ 3) (h4:K ≠ 4) (h5:K ≠ 5) (h6:K ≠ 6) (h7:K ≠ 7):decA bs = (zF,3):=by
  rw [h]; unfold decK; rw [if_neg h2,if_neg h3,if_neg h4,if_neg h5,if_neg h6,if_neg h7]
variable {g:GFrame} {ok fine:Bool} {r:List Nat × Bool} {n:Nat}
theorem fin_ok (h:ok = false):finC g ok fine r = (zF,3):=if_neg (fun hc => by rw [h] at hc; cases hc.1)
theorem fin_fine (h:fine = false):finC g ok fine r = (zF,3):=if_neg (fun hc => by rw [h] at hc; cases hc.2.1)
theorem fin_bad (h:r.2 = true):finC g ok fine r = (zF,3):=if_neg (fun hc => by rw [h] at hc; cases hc.2.2.1)
theorem fin_left (hn:r.1.length = n) (h:(0:Int) < if r.2 = true then 0 else ((n:Nat):Int)):finC g ok fine r = (zF,3):=if_neg (fun hc => by
  rw [hc.2.2.2.1] at hn; subst hn; split at h <;> exact absurd h (by decide))
theorem fin_st (hk:g.Kind = 3) (h:g.States.length ≠ 1):finC g ok fine r = (zF,3):=if_neg (fun hc => h (hc.2.2.2.2.1 hk))
theorem fin_id (hk:g.Kind ≠ 1) (h:g.ID.N = 0):finC g ok fine r = (zF,3):=if_neg (fun hc => hc.2.2.2.2.2 hk h)
theorem fin_yes (h1:ok = true) (h2:fine = true) (h3:r.2 = false) (hn:r.1.length = n) (h4:¬ (0:Int) < if r.2 = true then 0 else ((n:Nat):Int)) (h5:g.Kind = 3 → g.States.length = 1) (h6:g.Kind ≠ 1 → g.ID.N ≠ 0):finC g ok fine r = (g,0) :=
  if_pos ⟨h1,h2,h3,List.eq_nil_of_length_eq_zero (by rw [h3] at h4; simp at h4; omega),h5,h6⟩
theorem tail_ok (h:¬ (ok = true) ∨ ¬ (fine = true)):finC g ok fine r = (zF,3):=by
  rcases h with h | h
  · exact fin_ok (by simpa using h)
  · exact fin_fine (by simpa using h)
theorem tail_no {m:Nat} (hn:r.1.length = n) (hm:g.States.length = m) (h:((0:Int) < (if r.2 = true then 0 else ((n:Nat):Int)) ∨ (((g.Kind:Nat):Int) = 3∧((m:Nat):Int) ≠ 1)) ∨ (((g.Kind:Nat):Int) ≠ 1∧((g.ID.N:Nat):Int) = 0)):finC g ok fine r = (zF,3):=by
  rcases h with (h | h) | h
  · exact fin_left hn h
  · exact fin_st (by omega) (by omega)
  · exact fin_id (by omega) (by omega)
theorem tail_yes {m:Nat} (h0:¬ (¬ (ok = true) ∨ ¬ (fine = true))) (hb:r.2 = false) (hn:r.1.length = n) (hm:g.States.length = m) (h:¬ (((0:Int) < (if r.2 = true then 0 else ((n:Nat):Int)) ∨ (((g.Kind:Nat):Int) = 3∧((m:Nat):Int) ≠ 1)) ∨ (((g.Kind:Nat):Int) ≠ 1∧((g.ID.N:Nat):Int) = 0))):finC g ok fine r = (g,0):=by
  rw [not_or,Classical.not_not,Classical.not_not] at h0
  exact fin_yes h0.1 h0.2 hb hn (fun hh => h (.inl (.inl hh))) (fun h3 => by omega) (fun h1 => by omega)
end
end Go.FM

set_option linter.unusedVariables false
set_option linter.unusedSimpArgs false
namespace Go.FM
open Go
def atOf (n:Nat) (cur:List Nat) (bad:Bool):Int:=if bad then -1 else (n:Int) - (cur.length:Int)
def Suf (bs cur:List Nat):Prop:=∃ k,k ≤ bs.length∧cur = bs.drop k
theorem atOf_false (n:Nat) (cur:List Nat):atOf n cur false = (n:Int) - (cur.length:Int):=rfl
theorem Suf.refl (bs:List Nat):Suf bs bs:=⟨0,Nat.zero_le _,rfl⟩
theorem Suf.len {bs cur:List Nat} (h:Suf bs cur):cur.length ≤ bs.length:=by obtain ⟨k,hk,rfl⟩:=h; simp
theorem Suf.drop {bs cur:List Nat} (h:Suf bs cur) (m:Nat):Suf bs (cur.drop m):=by
  obtain ⟨k,hk,rfl⟩:=h
  by_cases hm:k + m ≤ bs.length
  · exact ⟨k + m,hm,by rw [List.drop_drop]⟩
  · exact ⟨bs.length,Nat.le_refl _,by rw [List.drop_drop,List.drop_eq_nil_of_le (by omega),List.drop_length]⟩
theorem rdU_sub (cur:List Nat) (bad:Bool):∃ m,(rdU cur bad).2.1 = cur.drop m:=by
  unfold rdU
  split
  · exact ⟨0,rfl⟩
  · split
    · rename_i h
      obtain ⟨k,h1,_,_⟩:=uscan_sub _ _ _ h
      exact ⟨k,h1⟩
    · exact ⟨0,rfl⟩
theorem Suf.rdU {bs cur:List Nat} (h:Suf bs cur) (bad:Bool):Suf bs (rdU cur bad).2.1:=by
  obtain ⟨m,e⟩:=rdU_sub cur bad
  rw [e]; exact h.drop m
theorem Suf.rdI {bs cur:List Nat} (h:Suf bs cur) (bad:Bool) (most:Int):Suf bs (rdI cur bad most).2.1:=by
  unfold FM.rdI; split <;> exact h.rdU bad
theorem Suf.rdB {bs cur:List Nat} (h:Suf bs cur) (bad:Bool) (most:Int):Suf bs (rdB cur bad most).2.1:=by
  unfold FM.rdB; split
  · exact h.rdI bad most
  · exact (h.rdI bad most).drop _
theorem Rr.at_ {n:Nat} {bs cur:List Nat} {bad:Bool} {a:Int} (h:Rr n bs cur bad a) (hn:bs.length = n):a = atOf n cur bad:=by
  rcases h with ⟨rfl,rfl⟩ | ⟨rfl,k,hk,rfl,rfl⟩
  · rfl
  · rw [atOf_false,List.length_drop]; omega
end Go.FM
namespace Go.FM
end Go.FM

set_option linter.unusedVariables false
set_option linter.unusedSimpArgs false
namespace Go.FM
open Go
theorem vid00:(vidE ⟨0,0⟩).length = 2:=by unfold vidE; rw [show uenc (GViewID.mk 0 0).N = [0] from uenc_one (n:=0) (by decide)]; rfl
theorem ms00:(msgsE []).length = 1:=by unfold msgsE; rw [show uenc ([]:List (List Nat)).length = [0] from uenc_one (n:=0) (by decide)]; rfl
theorem it00:(itemsE []).length = 1:=by unfold itemsE; rw [show uenc ([]:List GItem).length = [0] from uenc_one (n:=0) (by decide)]; rfl
theorem st00:(statesE []).length = 1:=by unfold statesE; rw [show uenc ([]:List GState).length = [0] from uenc_one (n:=0) (by decide)]; rfl
section
variable {bs cur p l9:List Nat} {b bad:Bool} {q q1 q2 kk f s u1 u2 u3:Nat × List Nat × Bool} {K F n:Nat}
variable {l:List GItem} {k k':Int} {m:List Nat × List Nat × Bool}
variable {ms:List (List Nat)}
variable {t:List GState} {v:GViewID × List Nat × Bool} {i:List GItem × List Nat × Bool}
variable {vi c c2:GViewID × List Nat × Bool} {ts:List GState × List Nat × Bool}
variable {g:GFrame} {r:List Nat × Bool}
theorem form_kind (h:formC g = true):1 ≤ g.Kind∧g.Kind ≤ 7:=by have:=(formC_all.1 h).1; omega
end
end Go.FM

set_option linter.unusedVariables false
set_option linter.unusedSimpArgs false
namespace Go.FM
open Go
theorem dec_of_enc {f:GFrame} (hf:formC f = true) (hb:FB f) (hl:¬ 1048572 < (bodyE f).length):decA (seal_ (bodyE f)) = (f,0):=by
  rw [decA_read (by rw [seal_length]; omega) (by rw [open_seal]),open_seal]; exact decP_cmp hf hb
theorem awk:encC (GFrame.mk 1 1 (GViewID.mk 0 0) 0 (GViewID.mk 0 0) (GViewID.mk 0 0) [] 0 [] [] 0 0) = (seal_ [1,1,0,0,0,0],0):=by
  have hv:vidE ⟨0,0⟩ = [0,0]:=by unfold vidE; rw [show uenc (GViewID.mk 0 0).N = [0] from uenc_one (n:=0) (by decide)]; rfl
  have hb:bodyE (GFrame.mk 1 1 (GViewID.mk 0 0) 0 (GViewID.mk 0 0) (GViewID.mk 0 0) [] 0 [] [] 0 0) = [1,1,0,0,0,0]:=by
    unfold bodyE idE kindE
    rw [if_pos rfl,if_pos rfl]
    show [1,_] ++ [] ++ (vidE ⟨0,0⟩ ++ vidE ⟨0,0⟩) = _
    rw [hv]; rfl
  rw [encC_yes (by decide) (by rw [hb]; decide),hb]
theorem awk_big:bigF (GFrame.mk 1 1 (GViewID.mk 0 0) 0 (GViewID.mk 0 0) (GViewID.mk 0 0) [] 0 [] [] 0 0) ≤ 1000000000:=by
  have h1:=vid00
  have h2:=ms00
  have h3:=it00
  have h4:=st00
  unfold bigF
  show (vidE ⟨0,0⟩).length + (vidE ⟨0,0⟩).length + (vidE ⟨0,0⟩).length + (statesE []).length + (msgsE []).length + (itemsE []).length ≤ _
  omega
theorem awk_len:(seal_ [1,1,0,0,0,0]).length = 10:=by rw [seal_length]; rfl
theorem awk_take:(seal_ [1,1,0,0,0,0]).take 6 = [1,1,0,0,0,0]:=by unfold seal_; rfl
theorem encC_len (f:GFrame):(encC f).1.length ≤ 1048576:=by
  unfold encC
  split
  · split
    · exact Nat.zero_le _
    · show (seal_ (bodyE f)).length ≤ _; rw [seal_length]; omega
  · exact Nat.zero_le _
def zT {α:Type} (g:α → Nat) (l:List α) (i:Nat):Nat:=((l.take i).map g).sum
theorem zT_next {α:Type} {g:α → Nat} {l:List α} {i:Nat} {e:α} (h:l[i]? = some e):zT g l (i + 1) = zT g l i + g e:=by
  unfold zT; rw [take_succ' h,List.map_append,List.sum_append]; simp
theorem zT_le {α:Type} (g:α → Nat) (l:List α) (i:Nat):zT g l i ≤ (l.map g).sum:=by
  have:(l.map g).sum = zT g l i + ((l.drop i).map g).sum:=by
    unfold zT; rw [← List.sum_append,← List.map_append,List.take_append_drop]
  omega
theorem zT_all {α:Type} {g:α → Nat} {l:List α} {i:Nat} (h:l.length ≤ i):zT g l i = (l.map g).sum:=by
  unfold zT; rw [List.take_of_length_le h]
def gM (x:GItem):Nat:=x.M.length
def gS (s:GState):Nat:=s.Items.length + (s.Items.map gM).sum
theorem sizeF_eq (f:GFrame):sizeF f = f.Msgs.length + f.Items.length + f.States.length + (f.Msgs.map List.length).sum + (f.Items.map gM).sum + (f.States.map gS).sum:=rfl
theorem great_is {f:GFrame} {n:Nat} (h:n = sizeF f):decide ((20000:Int) < ((n:Nat):Int)) = greatF f:=by
  unfold greatF; rw [h]; exact decide_eq_decide.2 (by omega)
end Go.FM

set_option linter.unusedVariables false
set_option linter.unusedSimpArgs false
namespace Go.FM
open Go
section
variable {f g:GFrame}
theorem mem_sum {α:Type} {k:α → Nat}:∀ {l:List α} {x:α},x ∈ l → k x ≤ (l.map k).sum
  | y::l,x,h => by
    rw [List.map_cons,List.sum_cons]
    rcases List.mem_cons.1 h with rfl | h
    · omega
    · have:=mem_sum (k:=k) h; omega
theorem size_parts (h:sizeF f ≤ 1048576):(∀ m ∈ f.Msgs,m.length ≤ 1048576)∧(∀ x ∈ f.Items,x.M.length ≤ 1048576)∧(∀ s ∈ f.States,s.Items.length ≤ 1048576∧∀ x ∈ s.Items,x.M.length ≤ 1048576)∧f.Msgs.length ≤ 1048576∧f.Items.length ≤ 1048576∧f.States.length ≤ 1048576:=by
  rw [sizeF_eq] at h
  refine ⟨fun m hm => ?_,fun x hx => ?_,fun s hs => ?_,by omega,by omega,by omega⟩
  · have:=mem_sum (k:=List.length) hm; omega
  · have:=mem_sum (k:=gM) hx; have:gM x = x.M.length:=rfl; omega
  · have h1:=mem_sum (k:=gS) hs
    have h2:gS s = s.Items.length + (s.Items.map gM).sum:=rfl
    refine ⟨by omega,fun x hx => ?_⟩
    have:=mem_sum (k:=gM) hx; have:gM x = x.M.length:=rfl; omega
theorem fb_of (h:sizeF f ≤ 1048576) (h1:f.ID.N < 18446744073709551616) (h2:f.Cur.N < 18446744073709551616) (h3:f.Prom.N < 18446744073709551616) (h4:f.Set < 65536) (h5:f.Base < 18446744073709551616) (h6:f.Ack < 18446744073709551616) (h7:f.Safe < 18446744073709551616) (hs:∀ s ∈ f.States,s.V.N < 18446744073709551616):FB f:=by
  obtain ⟨p1,p2,p3,_⟩:=size_parts h
  exact ⟨h1,h2,h3,h4,h5,h6,h7,p1,p2,fun s hm => ⟨hs s hm,(p3 s hm).2⟩⟩
theorem big_of (h:greatF f = false) (hs:sizeF f ≤ 1048576) (hb:FB f):bigF f ≤ 860100:=by
  obtain ⟨p1,p2,p3,p4,p5,p6⟩:=size_parts hs
  exact great_no h ⟨hb.id,hb.cur,hb.prom,fun m hm => by have:=p1 m hm; omega,fun x hx => by have:=p2 x hx; omega,fun s hm => ⟨(hb.states s hm).1,by have:=(p3 s hm).1; omega,fun x hx => by have:=(p3 s hm).2 x hx; omega⟩⟩ (by omega) (by omega) (by omega)
theorem body_short (h:bigF f ≤ 860100) (hb:FB f):(bodyE f).length ≤ 860132:=by
  have:=bodyE_len f (uenc_len10 (by have:=hb.set; omega)) (uenc_len10 hb.base) (uenc_len10 hb.ack) (uenc_len10 hb.safe)
  omega
theorem enc_is (hf:formC f = true) (h:bigF f ≤ 860100) (hb:FB f):encC f = (seal_ (bodyE f),0):=encC_yes hf (by have:=body_short h hb; omega)
theorem dec_is (hf:formC f = true) (h:bigF f ≤ 860100) (hb:FB f):decA (encC f).1 = (f,0):=by
  rw [enc_is hf h hb]; exact dec_of_enc hf hb (by have:=body_short h hb; omega)
theorem seal_inj {a b:List Nat} (h:seal_ a = seal_ b):a = b:=by
  have:=open_seal a
  rw [h,open_seal] at this
  injection this with this
  exact this.symm
theorem apart (hf:formC f = true) (h:bigF f ≤ 860100) (hb:FB f) (hg:formC g = true) (h':bigF g ≤ 860100) (hb':FB g):((encC f).1 = (encC g).1) ↔ f = g:=by
  rw [enc_is hf h hb,enc_is hg h' hb']
  exact ⟨fun e => body_inj hf hg hb hb' (seal_inj e),fun e => by rw [e]⟩
end
end Go.FM

set_option linter.unusedVariables false
set_option linter.unusedSimpArgs false
namespace Go.FM
open Go
def zIt (x:GItem):Nat:=x.M.length
def zSt (s:GState):Nat:=zL zIt s.Items
def zFr (f:GFrame):Nat:=zL zSt f.States + zL List.length f.Msgs + zL zIt f.Items
theorem zL_sum {α:Type} (z:α → Nat) (l:List α):zL z l = l.length + (l.map z).sum:=by
  unfold zL
  induction l with
  | nil => rfl
  | cons a l ih => rw [List.map_cons,List.sum_cons,ih,List.map_cons,List.sum_cons,List.length_cons]; omega
theorem size_zFr (f:GFrame):sizeF f = zFr f:=by
  have h:(f.States.map zSt).sum = (f.States.map gS).sum:=by
    congr 1; apply List.map_congr_left; intro s _; unfold zSt gS; rw [zL_sum]; rfl
  unfold zFr
  rw [sizeF_eq,zL_sum,zL_sum,zL_sum,h]
  show _ = _ + _ + (_ + _) + (_ + (f.Items.map gM).sum)
  omega
theorem Sl.mem_rep {α:Type} {d:Kd α} {H:Hp} {A:Option Addr} {n c:Nat} {xs:List α} (h:Sl d H A n c xs) {x:α} (hx:x ∈ xs):∃ cs,d.rep H x cs:=by
  obtain ⟨cells,_,h2⟩:=h.sl
  obtain ⟨j,hj,rfl⟩:=List.mem_iff_getElem.1 hx
  obtain ⟨c',h3,_⟩:=h2.2 j _ (List.getElem?_eq_getElem hj)
  exact ⟨c',h3⟩
theorem fr_fb {H:Hp} {f:GFrame} {cs:List Value} (h:kFrame.rep H f cs) (hz:sizeF f ≤ 1048576):FB f:=by
  obtain ⟨A1,n2,c3,A4,n5,c6,A7,n8,c9,rfl,h0,h1,h2,h3,h4,h5,h6,h7,h8,h9,h10,h11,h12,h13,h14⟩:=h
  refine fb_of hz h2 h5 h7 h4 h10 h13 h14 fun s hs => ?_
  obtain ⟨c,A,n,k,_,hN,_⟩:=Sl.mem_rep h9 hs
  exact hN
end Go.FM

set_option linter.unusedVariables false
set_option linter.unusedSimpArgs false
namespace Go.Proofs.Ytlfihfmmhhcigaa
open Go Go.FM Go.Proofs Go.ChangeShapes Go.WideShapes Go.ChangeAt Go.RowKit
theorem own:ownKnob Try.prog.godebug = none:=by kernel_rfl
theorem laidOut:laidOutB Try.prog = true:=by kernel_rfl
theorem blk {H:Type}:Blk (Hh:=H) Rows.uptoBulk Rows.uptoBulkAll where
  nil:=by simp [Rows.uptoBulkAll]
  cons d l:=by simp [Rows.uptoBulkAll]
  one d:=by
    cases d with
    | lit l => cases l <;> simp [Rows.uptoBulk]
    | _ => simp [Rows.uptoBulk]
  slice e s:=by simp only [Rows.uptoBulk]; omega
  agg p:=by simp only [Rows.uptoBulk]; omega
theorem opnz5:OpnZ Try.prog 5 (kU .u8 256 1 (by decide)) (fun _ => 0):=opnz_nat Try.underlying5 rfl rfl
theorem opnz3:OpnZ Try.prog 3 kI (fun _ => 0):=opnz_i64 Try.underlying3
theorem opnz22:OpnZ Try.prog 22 (kU .u64 18446744073709551616 8 (by decide)) (fun _ => 0):=opnz_nat Try.underlying22 rfl rfl
theorem opnz24:OpnZ Try.prog 24 kViewID (fun _ => 0):=fun {Hh bk bkA} hb {enc W fuel cs x} h hw => by
  obtain ⟨hl,xs,hxl,hbk,hp⟩:=opnz_parts hb Try.underlying24 h hw
  rw [show Try.prog.cellsOf 24 = 2 from by kernel_rfl] at hl
  have y0:xs.length = 2:=hxl
  obtain ⟨x0,xr0,rfl,y1,e0z⟩:=bk_cons (n:=1) hb _ y0
  obtain ⟨x1,xr1,rfl,y2,e1z⟩:=bk_cons (n:=0) hb _ y1
  have u0:cs.length = 2:=hl
  obtain ⟨v0,vr0,rfl,u1⟩:=len_cons (n:=1) _ u0
  obtain ⟨v1,vr1,rfl,u2⟩:=len_cons (n:=0) _ u1
  obtain rfl:=List.eq_nil_of_length_eq_zero u2
  obtain ⟨a0,r0,s0⟩:=hp 0 _ rfl opnz22
  have s0:=s0 x0 rfl
  have r0:(kU .u64 18446744073709551616 8 (by decide)).rep _ a0 (([v0,v1].drop 0).take (Try.prog.cellsOf 22)):=r0
  rw [show Try.prog.cellsOf 22 = 1 from by kernel_rfl] at r0
  have r0:(kU .u64 18446744073709551616 8 (by decide)).rep _ a0 [v0]:=r0
  obtain ⟨a1,r1,s1⟩:=hp 1 _ rfl opnz3
  have s1:=s1 x1 rfl
  have r1:kI.rep _ a1 (([v0,v1].drop 1).take (Try.prog.cellsOf 3)):=r1
  rw [show Try.prog.cellsOf 3 = 1 from by kernel_rfl] at r1
  have r1:kI.rep _ a1 [v1]:=r1
  obtain ⟨e0,b_1⟩:=r0
  try simp only [List.cons.injEq,and_true] at e0
  first | subst e0 | cases e0
  obtain ⟨e1,⟨b_101,b_102⟩⟩:=r1
  try simp only [List.cons.injEq,and_true] at e1
  first | subst e1 | cases e1
  refine ⟨GViewID.mk a0 a1,⟨rfl,b_1,⟨b_101,b_102⟩⟩,?_⟩
  have hz:(fun _ => 0) (GViewID.mk a0 a1) = 0:=rfl
  rw [hz]; omega
theorem opnz25:OpnZ Try.prog 25 (kU .u16 65536 2 (by decide)) (fun _ => 0):=opnz_nat Try.underlying25 rfl rfl
theorem opnz33:OpnZ Try.prog 33 kBs List.length:=opnz_bytes Try.underlying33 Try.underlying5 (by kernel_rfl) (by kernel_rfl)
theorem opnz49:OpnZ Try.prog 49 kItem zIt:=fun {Hh bk bkA} hb {enc W fuel cs x} h hw => by
  obtain ⟨hl,xs,hxl,hbk,hp⟩:=opnz_parts hb Try.underlying49 h hw
  rw [show Try.prog.cellsOf 49 = 2 from by kernel_rfl] at hl
  have y0:xs.length = 2:=hxl
  obtain ⟨x0,xr0,rfl,y1,e0z⟩:=bk_cons (n:=1) hb _ y0
  obtain ⟨x1,xr1,rfl,y2,e1z⟩:=bk_cons (n:=0) hb _ y1
  have u0:cs.length = 2:=hl
  obtain ⟨v0,vr0,rfl,u1⟩:=len_cons (n:=1) _ u0
  obtain ⟨v1,vr1,rfl,u2⟩:=len_cons (n:=0) _ u1
  obtain rfl:=List.eq_nil_of_length_eq_zero u2
  obtain ⟨a0,r0,s0⟩:=hp 0 _ rfl opnz3
  have s0:=s0 x0 rfl
  have r0:kI.rep _ a0 (([v0,v1].drop 0).take (Try.prog.cellsOf 3)):=r0
  rw [show Try.prog.cellsOf 3 = 1 from by kernel_rfl] at r0
  have r0:kI.rep _ a0 [v0]:=r0
  obtain ⟨a1,r1,s1⟩:=hp 1 _ rfl opnz33
  have s1:=s1 x1 rfl
  have r1:kBs.rep _ a1 (([v0,v1].drop 1).take (Try.prog.cellsOf 33)):=r1
  rw [show Try.prog.cellsOf 33 = 1 from by kernel_rfl] at r1
  have r1:kBs.rep _ a1 [v1]:=r1
  obtain ⟨e0,⟨b_1,b_2⟩⟩:=r0
  try simp only [List.cons.injEq,and_true] at e0
  first | subst e0 | cases e0
  obtain ⟨A_101,n_102,c_103,e1,hy_104⟩:=r1
  try simp only [List.cons.injEq,and_true] at e1
  first | subst e1 | cases e1
  refine ⟨GItem.mk a0 a1,⟨A_101,n_102,c_103,rfl,⟨b_1,b_2⟩,hy_104⟩,?_⟩
  have hz:zIt (GItem.mk a0 a1) = List.length a1:=rfl
  rw [hz]; omega
theorem opnz28:OpnZ Try.prog 28 (kSl kItem) (zL zIt):=opnz_sl Try.underlying28 (by kernel_rfl) (by kernel_rfl) opnz49
theorem opnz52:OpnZ Try.prog 52 kState zSt:=fun {Hh bk bkA} hb {enc W fuel cs x} h hw => by
  obtain ⟨hl,xs,hxl,hbk,hp⟩:=opnz_parts hb Try.underlying52 h hw
  rw [show Try.prog.cellsOf 52 = 4 from by kernel_rfl] at hl
  have y0:xs.length = 3:=hxl
  obtain ⟨x0,xr0,rfl,y1,e0z⟩:=bk_cons (n:=2) hb _ y0
  obtain ⟨x1,xr1,rfl,y2,e1z⟩:=bk_cons (n:=1) hb _ y1
  obtain ⟨x2,xr2,rfl,y3,e2z⟩:=bk_cons (n:=0) hb _ y2
  have u0:cs.length = 4:=hl
  obtain ⟨v0,vr0,rfl,u1⟩:=len_cons (n:=3) _ u0
  obtain ⟨v1,vr1,rfl,u2⟩:=len_cons (n:=2) _ u1
  obtain ⟨v2,vr2,rfl,u3⟩:=len_cons (n:=1) _ u2
  obtain ⟨v3,vr3,rfl,u4⟩:=len_cons (n:=0) _ u3
  obtain rfl:=List.eq_nil_of_length_eq_zero u4
  obtain ⟨a0,r0,s0⟩:=hp 0 _ rfl opnz24
  have s0:=s0 x0 rfl
  have r0:kViewID.rep _ a0 (([v0,v1,v2,v3].drop 0).take (Try.prog.cellsOf 24)):=r0
  rw [show Try.prog.cellsOf 24 = 2 from by kernel_rfl] at r0
  have r0:kViewID.rep _ a0 [v0,v1]:=r0
  obtain ⟨a1,r1,s1⟩:=hp 1 _ rfl opnz3
  have s1:=s1 x1 rfl
  have r1:kI.rep _ a1 (([v0,v1,v2,v3].drop 2).take (Try.prog.cellsOf 3)):=r1
  rw [show Try.prog.cellsOf 3 = 1 from by kernel_rfl] at r1
  have r1:kI.rep _ a1 [v2]:=r1
  obtain ⟨a2,r2,s2⟩:=hp 2 _ rfl opnz28
  have s2:=s2 x2 rfl
  have r2:(kSl kItem).rep _ a2 (([v0,v1,v2,v3].drop 3).take (Try.prog.cellsOf 28)):=r2
  rw [show Try.prog.cellsOf 28 = 1 from by kernel_rfl] at r2
  have r2:(kSl kItem).rep _ a2 [v3]:=r2
  obtain ⟨e0,b_1,⟨b_2,b_3⟩⟩:=r0
  try simp only [List.cons.injEq,and_true] at e0
  first | (obtain ⟨rfl,rfl⟩:=e0) | cases e0
  obtain ⟨e1,⟨b_101,b_102⟩⟩:=r1
  try simp only [List.cons.injEq,and_true] at e1
  first | subst e1 | cases e1
  obtain ⟨A_201,n_202,c_203,e2,hl_204⟩:=r2
  try simp only [List.cons.injEq,and_true] at e2
  first | subst e2 | cases e2
  refine ⟨GState.mk a0 a1 a2,⟨A_201,n_202,c_203,rfl,b_1,⟨b_2,b_3⟩,⟨b_101,b_102⟩,hl_204⟩,?_⟩
  have hz:zSt (GState.mk a0 a1 a2) = (zL zIt) a2:=rfl
  rw [hz]; omega
theorem opnz26:OpnZ Try.prog 26 (kSl kState) (zL zSt):=opnz_sl Try.underlying26 (by kernel_rfl) (by kernel_rfl) opnz52
theorem opnz27:OpnZ Try.prog 27 (kSl kBs) (zL List.length):=opnz_sl Try.underlying27 (by kernel_rfl) (by kernel_rfl) opnz33
theorem opnz30:OpnZ Try.prog 30 kFrame zFr:=fun {Hh bk bkA} hb {enc W fuel cs x} h hw => by
  obtain ⟨hl,xs,hxl,hbk,hp⟩:=opnz_parts hb Try.underlying30 h hw
  rw [show Try.prog.cellsOf 30 = 15 from by kernel_rfl] at hl
  have y0:xs.length = 12:=hxl
  obtain ⟨x0,xr0,rfl,y1,e0z⟩:=bk_cons (n:=11) hb _ y0
  obtain ⟨x1,xr1,rfl,y2,e1z⟩:=bk_cons (n:=10) hb _ y1
  obtain ⟨x2,xr2,rfl,y3,e2z⟩:=bk_cons (n:=9) hb _ y2
  obtain ⟨x3,xr3,rfl,y4,e3z⟩:=bk_cons (n:=8) hb _ y3
  obtain ⟨x4,xr4,rfl,y5,e4z⟩:=bk_cons (n:=7) hb _ y4
  obtain ⟨x5,xr5,rfl,y6,e5z⟩:=bk_cons (n:=6) hb _ y5
  obtain ⟨x6,xr6,rfl,y7,e6z⟩:=bk_cons (n:=5) hb _ y6
  obtain ⟨x7,xr7,rfl,y8,e7z⟩:=bk_cons (n:=4) hb _ y7
  obtain ⟨x8,xr8,rfl,y9,e8z⟩:=bk_cons (n:=3) hb _ y8
  obtain ⟨x9,xr9,rfl,y10,e9z⟩:=bk_cons (n:=2) hb _ y9
  obtain ⟨x10,xr10,rfl,y11,e10z⟩:=bk_cons (n:=1) hb _ y10
  obtain ⟨x11,xr11,rfl,y12,e11z⟩:=bk_cons (n:=0) hb _ y11
  have u0:cs.length = 15:=hl
  obtain ⟨v0,vr0,rfl,u1⟩:=len_cons (n:=14) _ u0
  obtain ⟨v1,vr1,rfl,u2⟩:=len_cons (n:=13) _ u1
  obtain ⟨v2,vr2,rfl,u3⟩:=len_cons (n:=12) _ u2
  obtain ⟨v3,vr3,rfl,u4⟩:=len_cons (n:=11) _ u3
  obtain ⟨v4,vr4,rfl,u5⟩:=len_cons (n:=10) _ u4
  obtain ⟨v5,vr5,rfl,u6⟩:=len_cons (n:=9) _ u5
  obtain ⟨v6,vr6,rfl,u7⟩:=len_cons (n:=8) _ u6
  obtain ⟨v7,vr7,rfl,u8⟩:=len_cons (n:=7) _ u7
  obtain ⟨v8,vr8,rfl,u9⟩:=len_cons (n:=6) _ u8
  obtain ⟨v9,vr9,rfl,u10⟩:=len_cons (n:=5) _ u9
  obtain ⟨v10,vr10,rfl,u11⟩:=len_cons (n:=4) _ u10
  obtain ⟨v11,vr11,rfl,u12⟩:=len_cons (n:=3) _ u11
  obtain ⟨v12,vr12,rfl,u13⟩:=len_cons (n:=2) _ u12
  obtain ⟨v13,vr13,rfl,u14⟩:=len_cons (n:=1) _ u13
  obtain ⟨v14,vr14,rfl,u15⟩:=len_cons (n:=0) _ u14
  obtain rfl:=List.eq_nil_of_length_eq_zero u15
  obtain ⟨a0,r0,s0⟩:=hp 0 _ rfl opnz5
  have s0:=s0 x0 rfl
  have r0:(kU .u8 256 1 (by decide)).rep _ a0 (([v0,v1,v2,v3,v4,v5,v6,v7,v8,v9,v10,v11,v12,v13,v14].drop 0).take (Try.prog.cellsOf 5)):=r0
  rw [show Try.prog.cellsOf 5 = 1 from by kernel_rfl] at r0
  have r0:(kU .u8 256 1 (by decide)).rep _ a0 [v0]:=r0
  obtain ⟨a1,r1,s1⟩:=hp 1 _ rfl opnz3
  have s1:=s1 x1 rfl
  have r1:kI.rep _ a1 (([v0,v1,v2,v3,v4,v5,v6,v7,v8,v9,v10,v11,v12,v13,v14].drop 1).take (Try.prog.cellsOf 3)):=r1
  rw [show Try.prog.cellsOf 3 = 1 from by kernel_rfl] at r1
  have r1:kI.rep _ a1 [v1]:=r1
  obtain ⟨a2,r2,s2⟩:=hp 2 _ rfl opnz24
  have s2:=s2 x2 rfl
  have r2:kViewID.rep _ a2 (([v0,v1,v2,v3,v4,v5,v6,v7,v8,v9,v10,v11,v12,v13,v14].drop 2).take (Try.prog.cellsOf 24)):=r2
  rw [show Try.prog.cellsOf 24 = 2 from by kernel_rfl] at r2
  have r2:kViewID.rep _ a2 [v2,v3]:=r2
  obtain ⟨a3,r3,s3⟩:=hp 3 _ rfl opnz25
  have s3:=s3 x3 rfl
  have r3:(kU .u16 65536 2 (by decide)).rep _ a3 (([v0,v1,v2,v3,v4,v5,v6,v7,v8,v9,v10,v11,v12,v13,v14].drop 4).take (Try.prog.cellsOf 25)):=r3
  rw [show Try.prog.cellsOf 25 = 1 from by kernel_rfl] at r3
  have r3:(kU .u16 65536 2 (by decide)).rep _ a3 [v4]:=r3
  obtain ⟨a4,r4,s4⟩:=hp 4 _ rfl opnz24
  have s4:=s4 x4 rfl
  have r4:kViewID.rep _ a4 (([v0,v1,v2,v3,v4,v5,v6,v7,v8,v9,v10,v11,v12,v13,v14].drop 5).take (Try.prog.cellsOf 24)):=r4
  rw [show Try.prog.cellsOf 24 = 2 from by kernel_rfl] at r4
  have r4:kViewID.rep _ a4 [v5,v6]:=r4
  obtain ⟨a5,r5,s5⟩:=hp 5 _ rfl opnz24
  have s5:=s5 x5 rfl
  have r5:kViewID.rep _ a5 (([v0,v1,v2,v3,v4,v5,v6,v7,v8,v9,v10,v11,v12,v13,v14].drop 7).take (Try.prog.cellsOf 24)):=r5
  rw [show Try.prog.cellsOf 24 = 2 from by kernel_rfl] at r5
  have r5:kViewID.rep _ a5 [v7,v8]:=r5
  obtain ⟨a6,r6,s6⟩:=hp 6 _ rfl opnz26
  have s6:=s6 x6 rfl
  have r6:(kSl kState).rep _ a6 (([v0,v1,v2,v3,v4,v5,v6,v7,v8,v9,v10,v11,v12,v13,v14].drop 9).take (Try.prog.cellsOf 26)):=r6
  rw [show Try.prog.cellsOf 26 = 1 from by kernel_rfl] at r6
  have r6:(kSl kState).rep _ a6 [v9]:=r6
  obtain ⟨a7,r7,s7⟩:=hp 7 _ rfl opnz22
  have s7:=s7 x7 rfl
  have r7:(kU .u64 18446744073709551616 8 (by decide)).rep _ a7 (([v0,v1,v2,v3,v4,v5,v6,v7,v8,v9,v10,v11,v12,v13,v14].drop 10).take (Try.prog.cellsOf 22)):=r7
  rw [show Try.prog.cellsOf 22 = 1 from by kernel_rfl] at r7
  have r7:(kU .u64 18446744073709551616 8 (by decide)).rep _ a7 [v10]:=r7
  obtain ⟨a8,r8,s8⟩:=hp 8 _ rfl opnz27
  have s8:=s8 x8 rfl
  have r8:(kSl kBs).rep _ a8 (([v0,v1,v2,v3,v4,v5,v6,v7,v8,v9,v10,v11,v12,v13,v14].drop 11).take (Try.prog.cellsOf 27)):=r8
  rw [show Try.prog.cellsOf 27 = 1 from by kernel_rfl] at r8
  have r8:(kSl kBs).rep _ a8 [v11]:=r8
  obtain ⟨a9,r9,s9⟩:=hp 9 _ rfl opnz28
  have s9:=s9 x9 rfl
  have r9:(kSl kItem).rep _ a9 (([v0,v1,v2,v3,v4,v5,v6,v7,v8,v9,v10,v11,v12,v13,v14].drop 12).take (Try.prog.cellsOf 28)):=r9
  rw [show Try.prog.cellsOf 28 = 1 from by kernel_rfl] at r9
  have r9:(kSl kItem).rep _ a9 [v12]:=r9
  obtain ⟨a10,r10,s10⟩:=hp 10 _ rfl opnz22
  have s10:=s10 x10 rfl
  have r10:(kU .u64 18446744073709551616 8 (by decide)).rep _ a10 (([v0,v1,v2,v3,v4,v5,v6,v7,v8,v9,v10,v11,v12,v13,v14].drop 13).take (Try.prog.cellsOf 22)):=r10
  rw [show Try.prog.cellsOf 22 = 1 from by kernel_rfl] at r10
  have r10:(kU .u64 18446744073709551616 8 (by decide)).rep _ a10 [v13]:=r10
  obtain ⟨a11,r11,s11⟩:=hp 11 _ rfl opnz22
  have s11:=s11 x11 rfl
  have r11:(kU .u64 18446744073709551616 8 (by decide)).rep _ a11 (([v0,v1,v2,v3,v4,v5,v6,v7,v8,v9,v10,v11,v12,v13,v14].drop 14).take (Try.prog.cellsOf 22)):=r11
  rw [show Try.prog.cellsOf 22 = 1 from by kernel_rfl] at r11
  have r11:(kU .u64 18446744073709551616 8 (by decide)).rep _ a11 [v14]:=r11
  obtain ⟨e0,b_1⟩:=r0
  try simp only [List.cons.injEq,and_true] at e0
  first | subst e0 | cases e0
  obtain ⟨e1,⟨b_101,b_102⟩⟩:=r1
  try simp only [List.cons.injEq,and_true] at e1
  first | subst e1 | cases e1
  obtain ⟨e2,b_201,⟨b_202,b_203⟩⟩:=r2
  try simp only [List.cons.injEq,and_true] at e2
  first | (obtain ⟨rfl,rfl⟩:=e2) | cases e2
  obtain ⟨e3,b_301⟩:=r3
  try simp only [List.cons.injEq,and_true] at e3
  first | subst e3 | cases e3
  obtain ⟨e4,b_401,⟨b_402,b_403⟩⟩:=r4
  try simp only [List.cons.injEq,and_true] at e4
  first | (obtain ⟨rfl,rfl⟩:=e4) | cases e4
  obtain ⟨e5,b_501,⟨b_502,b_503⟩⟩:=r5
  try simp only [List.cons.injEq,and_true] at e5
  first | (obtain ⟨rfl,rfl⟩:=e5) | cases e5
  obtain ⟨A_601,n_602,c_603,e6,hl_604⟩:=r6
  try simp only [List.cons.injEq,and_true] at e6
  first | subst e6 | cases e6
  obtain ⟨e7,b_701⟩:=r7
  try simp only [List.cons.injEq,and_true] at e7
  first | subst e7 | cases e7
  obtain ⟨A_801,n_802,c_803,e8,hl_804⟩:=r8
  try simp only [List.cons.injEq,and_true] at e8
  first | subst e8 | cases e8
  obtain ⟨A_901,n_902,c_903,e9,hl_904⟩:=r9
  try simp only [List.cons.injEq,and_true] at e9
  first | subst e9 | cases e9
  obtain ⟨e10,b_1001⟩:=r10
  try simp only [List.cons.injEq,and_true] at e10
  first | subst e10 | cases e10
  obtain ⟨e11,b_1101⟩:=r11
  try simp only [List.cons.injEq,and_true] at e11
  first | subst e11 | cases e11
  refine ⟨GFrame.mk a0 a1 a2 a3 a4 a5 a6 a7 a8 a9 a10 a11,⟨A_601,n_602,c_603,A_801,n_802,c_803,A_901,n_902,c_903,rfl,b_1,⟨b_101,b_102⟩,b_201,⟨b_202,b_203⟩,b_301,b_401,⟨b_402,b_403⟩,b_501,⟨b_502,b_503⟩,hl_604,b_701,hl_804,hl_904,b_1001,b_1101⟩,?_⟩
  have hz:zFr (GFrame.mk a0 a1 a2 a3 a4 a5 a6 a7 a8 a9 a10 a11) = (zL zSt) a6 + (zL List.length) a8 + (zL zIt) a9:=rfl
  rw [hz]; omega
end Go.Proofs.Ytlfihfmmhhcigaa

set_option linter.unusedVariables false
set_option linter.unusedSimpArgs false
namespace Go.Proofs.Ytlfihfmmhhcigaa
open Go Go.FM Go.Proofs
set_option maxRecDepth 100000
theorem mixed:Try.prog.follows .mixedOrders = true:=by kernel_rfl
theorem inf3:Inf Try.prog 3 (.int .i64 0) 1 8:=Inf.mk (by kernel_rfl)
theorem inf4:Inf Try.prog 4 (.bool false) 1 1:=Inf.mk (by kernel_rfl)
theorem inf5:Inf Try.prog 5 (.int .u8 0) 1 1:=Inf.mk (by kernel_rfl)
theorem inf22:Inf Try.prog 22 (.int .u64 0) 1 8:=Inf.mk (by kernel_rfl)
theorem inf24:Inf Try.prog 24 (.agg #[.int .u64 0,.int .i64 0]) 2 16:=Inf.mk (by kernel_rfl)
theorem inf25:Inf Try.prog 25 (.int .u16 0) 1 2:=Inf.mk (by kernel_rfl)
theorem inf26:Inf Try.prog 26 (.slice none 0 0) 1 24:=Inf.mk (by kernel_rfl)
theorem inf27:Inf Try.prog 27 (.slice none 0 0) 1 24:=Inf.mk (by kernel_rfl)
theorem inf28:Inf Try.prog 28 (.slice none 0 0) 1 24:=Inf.mk (by kernel_rfl)
theorem inf30:Inf Try.prog 30 (.agg #[.int .u8 0,.int .i64 0,.int .u64 0,.int .i64 0,.int .u16 0,.int .u64 0,.int .i64 0,.int .u64 0,.int .i64 0,.slice none 0 0,.int .u64 0,.slice none 0 0,.slice none 0 0,.int .u64 0,.int .u64 0]) 15 168:=Inf.mk (by kernel_rfl)
theorem inf33:Inf Try.prog 33 (.slice none 0 0) 1 24:=Inf.mk (by kernel_rfl)
theorem inf49:Inf Try.prog 49 (.agg #[.int .i64 0,.slice none 0 0]) 2 32:=Inf.mk (by kernel_rfl)
theorem inf52:Inf Try.prog 52 (.agg #[.int .u64 0,.int .i64 0,.int .i64 0,.slice none 0 0]) 4 48:=Inf.mk (by kernel_rfl)
theorem inf58:Inf Try.prog 58 (.agg #[.slice none 0 0,.bool false]) 2 32:=Inf.mk (by kernel_rfl)
theorem inf95:Inf Try.prog 95 (.agg #[.int .u8 0,.int .u8 0,.int .u8 0,.int .u8 0]) 4 4:=Inf.mk (by kernel_rfl)
theorem inf98:Inf Try.prog 98 (.agg #[.slice none 0 0,.bool false]) 2 32:=Inf.mk (by kernel_rfl)
theorem sc3:scalarT Try.prog 3 = true:=by kernel_rfl
theorem ld3 {N:Nat} {ρ:Nat → Value} {w:World} {ty:Nat} {x:Operand} {ad:Addr} {v:Value} (hx:Ev N ρ x (.pointer (some ad))) (hc:w.cell? ad = some v):Ex Try.prog N ρ w (.load 3 x) ty v w:=x_load sc3 hx hc
theorem sc4:scalarT Try.prog 4 = true:=by kernel_rfl
theorem ld4 {N:Nat} {ρ:Nat → Value} {w:World} {ty:Nat} {x:Operand} {ad:Addr} {v:Value} (hx:Ev N ρ x (.pointer (some ad))) (hc:w.cell? ad = some v):Ex Try.prog N ρ w (.load 4 x) ty v w:=x_load sc4 hx hc
theorem sto4 {N:Nat} {ρ:Nat → Value} {H:Hp} {w:World} {L:List Res} {g T ty i:Nat} {x y:Operand} {cs cs':List Value} {v:Value} (h:St H w (obj g T cs::L)) (hx:Ev N ρ x (.pointer (some ⟨g,i,none⟩))) (hy:Ev N ρ y v) (hsz:v.cells.size = 1) (hl:i + 1 ≤ cs.length) (h1:∀ u ∈ v.cells.toList,u.oneCell' = true) (hsp:splice cs i v.cells.toList = cs'):∃ w',Ex0 Try.prog N ρ w (.store 4 x y) ty w'∧St H w' (obj g T cs'::L):=by
  obtain ⟨i0,e1,_,e3,_⟩:=inf4
  exact m_store e1 h hx hy (by rw [e3]; exact hsz) (by rw [e3]; exact hl) h1 hsp
theorem sc5:scalarT Try.prog 5 = true:=by kernel_rfl
theorem ld5 {N:Nat} {ρ:Nat → Value} {w:World} {ty:Nat} {x:Operand} {ad:Addr} {v:Value} (hx:Ev N ρ x (.pointer (some ad))) (hc:w.cell? ad = some v):Ex Try.prog N ρ w (.load 5 x) ty v w:=x_load sc5 hx hc
theorem stor5 {N:Nat} {ρ:Nat → Value} {H:Hp} {w:World} {L:List Res} {g e size n cap ty i:Nat} {x y:Operand} {xs xs':List Value} {v u:Value} (h:St H w (row e size v n xs::L)) (hv:v = .slice (some ⟨g,0,none⟩) n cap) (hx:Ev N ρ x (.pointer (some ⟨g,i,none⟩))) (hy:Ev N ρ y u) (hsz:u.cells.size = 1) (hl:i + 1 ≤ xs.length) (h1:∀ u' ∈ u.cells.toList,u'.oneCell' = true) (hsp:splice xs i u.cells.toList = xs'):∃ w',Ex0 Try.prog N ρ w (.store 5 x y) ty w'∧St H w' (row e size v n xs'::L):=by
  obtain ⟨i0,e1,_,e3,_⟩:=inf5
  exact m_storeRow e1 h hv hx hy (by rw [e3]; exact hsz) (by rw [e3]; exact hl) h1 hsp
theorem sc22:scalarT Try.prog 22 = true:=by kernel_rfl
theorem ld22 {N:Nat} {ρ:Nat → Value} {w:World} {ty:Nat} {x:Operand} {ad:Addr} {v:Value} (hx:Ev N ρ x (.pointer (some ad))) (hc:w.cell? ad = some v):Ex Try.prog N ρ w (.load 22 x) ty v w:=x_load sc22 hx hc
theorem sto22 {N:Nat} {ρ:Nat → Value} {H:Hp} {w:World} {L:List Res} {g T ty i:Nat} {x y:Operand} {cs cs':List Value} {v:Value} (h:St H w (obj g T cs::L)) (hx:Ev N ρ x (.pointer (some ⟨g,i,none⟩))) (hy:Ev N ρ y v) (hsz:v.cells.size = 1) (hl:i + 1 ≤ cs.length) (h1:∀ u ∈ v.cells.toList,u.oneCell' = true) (hsp:splice cs i v.cells.toList = cs'):∃ w',Ex0 Try.prog N ρ w (.store 22 x y) ty w'∧St H w' (obj g T cs'::L):=by
  obtain ⟨i0,e1,_,e3,_⟩:=inf22
  exact m_store e1 h hx hy (by rw [e3]; exact hsz) (by rw [e3]; exact hl) h1 hsp
theorem ag24:aggT Try.prog 24 = true:=by kernel_rfl
theorem ld24 {N:Nat} {ρ:Nat → Value} {w:World} {ty:Nat} {x:Operand} {ad:Addr} {cs:List Value} (hx:Ev N ρ x (.pointer (some ad))) (hc:At w ad cs) (hl:cs.length = 2):Ex Try.prog N ρ w (.load 24 x) ty (.agg cs.toArray) w:=by
  obtain ⟨i0,h1,_,h3,_⟩:=inf24
  exact x_loadA ag24 h1 hx hc (by rw [h3]; exact hl)
theorem lv24 {w:World} {ad:Addr} {cs:List Value} (hc:At w ad cs) (hl:cs.length = 2):(loadVar 24 ad).run Try.prog w = .ok (.agg cs.toArray) w:=by
  obtain ⟨i0,h1,_,h3,_⟩:=inf24
  exact run_loadVar_t ag24 h1 hc (by rw [h3]; exact hl)
theorem sto24 {N:Nat} {ρ:Nat → Value} {H:Hp} {w:World} {L:List Res} {g T ty i:Nat} {x y:Operand} {cs cs':List Value} {v:Value} (h:St H w (obj g T cs::L)) (hx:Ev N ρ x (.pointer (some ⟨g,i,none⟩))) (hy:Ev N ρ y v) (hsz:v.cells.size = 2) (hl:i + 2 ≤ cs.length) (h1:∀ u ∈ v.cells.toList,u.oneCell' = true) (hsp:splice cs i v.cells.toList = cs'):∃ w',Ex0 Try.prog N ρ w (.store 24 x y) ty w'∧St H w' (obj g T cs'::L):=by
  obtain ⟨i0,e1,_,e3,_⟩:=inf24
  exact m_store e1 h hx hy (by rw [e3]; exact hsz) (by rw [e3]; exact hl) h1 hsp
theorem al24 {N:Nat} {ρ:Nat → Value} {H:Hp} {w:World} {L:List Res} {ty:Nat} {cs:List Value} (h:St H w L) (hv:(.agg #[.int .u64 0,.int .i64 0]:Value).cells = cs.toArray):∃ v' w',Ex Try.prog N ρ w (.alloc 24) ty v' w'∧∃ g,v' = .pointer (some ⟨g,0,none⟩)∧St H w' (obj g 24 cs::L):=by
  obtain ⟨i0,e1,e2,_,_⟩:=inf24
  exact m_alloc e1 e2 h hv
theorem sc25:scalarT Try.prog 25 = true:=by kernel_rfl
theorem ld25 {N:Nat} {ρ:Nat → Value} {w:World} {ty:Nat} {x:Operand} {ad:Addr} {v:Value} (hx:Ev N ρ x (.pointer (some ad))) (hc:w.cell? ad = some v):Ex Try.prog N ρ w (.load 25 x) ty v w:=x_load sc25 hx hc
theorem sto25 {N:Nat} {ρ:Nat → Value} {H:Hp} {w:World} {L:List Res} {g T ty i:Nat} {x y:Operand} {cs cs':List Value} {v:Value} (h:St H w (obj g T cs::L)) (hx:Ev N ρ x (.pointer (some ⟨g,i,none⟩))) (hy:Ev N ρ y v) (hsz:v.cells.size = 1) (hl:i + 1 ≤ cs.length) (h1:∀ u ∈ v.cells.toList,u.oneCell' = true) (hsp:splice cs i v.cells.toList = cs'):∃ w',Ex0 Try.prog N ρ w (.store 25 x y) ty w'∧St H w' (obj g T cs'::L):=by
  obtain ⟨i0,e1,_,e3,_⟩:=inf25
  exact m_store e1 h hx hy (by rw [e3]; exact hsz) (by rw [e3]; exact hl) h1 hsp
theorem sc26:scalarT Try.prog 26 = true:=by kernel_rfl
theorem ld26 {N:Nat} {ρ:Nat → Value} {w:World} {ty:Nat} {x:Operand} {ad:Addr} {v:Value} (hx:Ev N ρ x (.pointer (some ad))) (hc:w.cell? ad = some v):Ex Try.prog N ρ w (.load 26 x) ty v w:=x_load sc26 hx hc
theorem sto26 {N:Nat} {ρ:Nat → Value} {H:Hp} {w:World} {L:List Res} {g T ty i:Nat} {x y:Operand} {cs cs':List Value} {v:Value} (h:St H w (obj g T cs::L)) (hx:Ev N ρ x (.pointer (some ⟨g,i,none⟩))) (hy:Ev N ρ y v) (hsz:v.cells.size = 1) (hl:i + 1 ≤ cs.length) (h1:∀ u ∈ v.cells.toList,u.oneCell' = true) (hsp:splice cs i v.cells.toList = cs'):∃ w',Ex0 Try.prog N ρ w (.store 26 x y) ty w'∧St H w' (obj g T cs'::L):=by
  obtain ⟨i0,e1,_,e3,_⟩:=inf26
  exact m_store e1 h hx hy (by rw [e3]; exact hsz) (by rw [e3]; exact hl) h1 hsp
theorem sc27:scalarT Try.prog 27 = true:=by kernel_rfl
theorem ld27 {N:Nat} {ρ:Nat → Value} {w:World} {ty:Nat} {x:Operand} {ad:Addr} {v:Value} (hx:Ev N ρ x (.pointer (some ad))) (hc:w.cell? ad = some v):Ex Try.prog N ρ w (.load 27 x) ty v w:=x_load sc27 hx hc
theorem sto27 {N:Nat} {ρ:Nat → Value} {H:Hp} {w:World} {L:List Res} {g T ty i:Nat} {x y:Operand} {cs cs':List Value} {v:Value} (h:St H w (obj g T cs::L)) (hx:Ev N ρ x (.pointer (some ⟨g,i,none⟩))) (hy:Ev N ρ y v) (hsz:v.cells.size = 1) (hl:i + 1 ≤ cs.length) (h1:∀ u ∈ v.cells.toList,u.oneCell' = true) (hsp:splice cs i v.cells.toList = cs'):∃ w',Ex0 Try.prog N ρ w (.store 27 x y) ty w'∧St H w' (obj g T cs'::L):=by
  obtain ⟨i0,e1,_,e3,_⟩:=inf27
  exact m_store e1 h hx hy (by rw [e3]; exact hsz) (by rw [e3]; exact hl) h1 hsp
theorem sc28:scalarT Try.prog 28 = true:=by kernel_rfl
theorem ld28 {N:Nat} {ρ:Nat → Value} {w:World} {ty:Nat} {x:Operand} {ad:Addr} {v:Value} (hx:Ev N ρ x (.pointer (some ad))) (hc:w.cell? ad = some v):Ex Try.prog N ρ w (.load 28 x) ty v w:=x_load sc28 hx hc
theorem sto28 {N:Nat} {ρ:Nat → Value} {H:Hp} {w:World} {L:List Res} {g T ty i:Nat} {x y:Operand} {cs cs':List Value} {v:Value} (h:St H w (obj g T cs::L)) (hx:Ev N ρ x (.pointer (some ⟨g,i,none⟩))) (hy:Ev N ρ y v) (hsz:v.cells.size = 1) (hl:i + 1 ≤ cs.length) (h1:∀ u ∈ v.cells.toList,u.oneCell' = true) (hsp:splice cs i v.cells.toList = cs'):∃ w',Ex0 Try.prog N ρ w (.store 28 x y) ty w'∧St H w' (obj g T cs'::L):=by
  obtain ⟨i0,e1,_,e3,_⟩:=inf28
  exact m_store e1 h hx hy (by rw [e3]; exact hsz) (by rw [e3]; exact hl) h1 hsp
theorem ag30:aggT Try.prog 30 = true:=by kernel_rfl
theorem ld30 {N:Nat} {ρ:Nat → Value} {w:World} {ty:Nat} {x:Operand} {ad:Addr} {cs:List Value} (hx:Ev N ρ x (.pointer (some ad))) (hc:At w ad cs) (hl:cs.length = 15):Ex Try.prog N ρ w (.load 30 x) ty (.agg cs.toArray) w:=by
  obtain ⟨i0,h1,_,h3,_⟩:=inf30
  exact x_loadA ag30 h1 hx hc (by rw [h3]; exact hl)
theorem lv30 {w:World} {ad:Addr} {cs:List Value} (hc:At w ad cs) (hl:cs.length = 15):(loadVar 30 ad).run Try.prog w = .ok (.agg cs.toArray) w:=by
  obtain ⟨i0,h1,_,h3,_⟩:=inf30
  exact run_loadVar_t ag30 h1 hc (by rw [h3]; exact hl)
theorem sto30 {N:Nat} {ρ:Nat → Value} {H:Hp} {w:World} {L:List Res} {g T ty i:Nat} {x y:Operand} {cs cs':List Value} {v:Value} (h:St H w (obj g T cs::L)) (hx:Ev N ρ x (.pointer (some ⟨g,i,none⟩))) (hy:Ev N ρ y v) (hsz:v.cells.size = 15) (hl:i + 15 ≤ cs.length) (h1:∀ u ∈ v.cells.toList,u.oneCell' = true) (hsp:splice cs i v.cells.toList = cs'):∃ w',Ex0 Try.prog N ρ w (.store 30 x y) ty w'∧St H w' (obj g T cs'::L):=by
  obtain ⟨i0,e1,_,e3,_⟩:=inf30
  exact m_store e1 h hx hy (by rw [e3]; exact hsz) (by rw [e3]; exact hl) h1 hsp
theorem al30 {N:Nat} {ρ:Nat → Value} {H:Hp} {w:World} {L:List Res} {ty:Nat} {cs:List Value} (h:St H w L) (hv:(.agg #[.int .u8 0,.int .i64 0,.int .u64 0,.int .i64 0,.int .u16 0,.int .u64 0,.int .i64 0,.int .u64 0,.int .i64 0,.slice none 0 0,.int .u64 0,.slice none 0 0,.slice none 0 0,.int .u64 0,.int .u64 0]:Value).cells = cs.toArray):∃ v' w',Ex Try.prog N ρ w (.alloc 30) ty v' w'∧∃ g,v' = .pointer (some ⟨g,0,none⟩)∧St H w' (obj g 30 cs::L):=by
  obtain ⟨i0,e1,e2,_,_⟩:=inf30
  exact m_alloc e1 e2 h hv
theorem sc33:scalarT Try.prog 33 = true:=by kernel_rfl
theorem ld33 {N:Nat} {ρ:Nat → Value} {w:World} {ty:Nat} {x:Operand} {ad:Addr} {v:Value} (hx:Ev N ρ x (.pointer (some ad))) (hc:w.cell? ad = some v):Ex Try.prog N ρ w (.load 33 x) ty v w:=x_load sc33 hx hc
theorem sto33 {N:Nat} {ρ:Nat → Value} {H:Hp} {w:World} {L:List Res} {g T ty i:Nat} {x y:Operand} {cs cs':List Value} {v:Value} (h:St H w (obj g T cs::L)) (hx:Ev N ρ x (.pointer (some ⟨g,i,none⟩))) (hy:Ev N ρ y v) (hsz:v.cells.size = 1) (hl:i + 1 ≤ cs.length) (h1:∀ u ∈ v.cells.toList,u.oneCell' = true) (hsp:splice cs i v.cells.toList = cs'):∃ w',Ex0 Try.prog N ρ w (.store 33 x y) ty w'∧St H w' (obj g T cs'::L):=by
  obtain ⟨i0,e1,_,e3,_⟩:=inf33
  exact m_store e1 h hx hy (by rw [e3]; exact hsz) (by rw [e3]; exact hl) h1 hsp
theorem ag49:aggT Try.prog 49 = true:=by kernel_rfl
theorem ld49 {N:Nat} {ρ:Nat → Value} {w:World} {ty:Nat} {x:Operand} {ad:Addr} {cs:List Value} (hx:Ev N ρ x (.pointer (some ad))) (hc:At w ad cs) (hl:cs.length = 2):Ex Try.prog N ρ w (.load 49 x) ty (.agg cs.toArray) w:=by
  obtain ⟨i0,h1,_,h3,_⟩:=inf49
  exact x_loadA ag49 h1 hx hc (by rw [h3]; exact hl)
theorem sto49 {N:Nat} {ρ:Nat → Value} {H:Hp} {w:World} {L:List Res} {g T ty i:Nat} {x y:Operand} {cs cs':List Value} {v:Value} (h:St H w (obj g T cs::L)) (hx:Ev N ρ x (.pointer (some ⟨g,i,none⟩))) (hy:Ev N ρ y v) (hsz:v.cells.size = 2) (hl:i + 2 ≤ cs.length) (h1:∀ u ∈ v.cells.toList,u.oneCell' = true) (hsp:splice cs i v.cells.toList = cs'):∃ w',Ex0 Try.prog N ρ w (.store 49 x y) ty w'∧St H w' (obj g T cs'::L):=by
  obtain ⟨i0,e1,_,e3,_⟩:=inf49
  exact m_store e1 h hx hy (by rw [e3]; exact hsz) (by rw [e3]; exact hl) h1 hsp
theorem al49 {N:Nat} {ρ:Nat → Value} {H:Hp} {w:World} {L:List Res} {ty:Nat} {cs:List Value} (h:St H w L) (hv:(.agg #[.int .i64 0,.slice none 0 0]:Value).cells = cs.toArray):∃ v' w',Ex Try.prog N ρ w (.alloc 49) ty v' w'∧∃ g,v' = .pointer (some ⟨g,0,none⟩)∧St H w' (obj g 49 cs::L):=by
  obtain ⟨i0,e1,e2,_,_⟩:=inf49
  exact m_alloc e1 e2 h hv
theorem ag52:aggT Try.prog 52 = true:=by kernel_rfl
theorem ld52 {N:Nat} {ρ:Nat → Value} {w:World} {ty:Nat} {x:Operand} {ad:Addr} {cs:List Value} (hx:Ev N ρ x (.pointer (some ad))) (hc:At w ad cs) (hl:cs.length = 4):Ex Try.prog N ρ w (.load 52 x) ty (.agg cs.toArray) w:=by
  obtain ⟨i0,h1,_,h3,_⟩:=inf52
  exact x_loadA ag52 h1 hx hc (by rw [h3]; exact hl)
theorem sto52 {N:Nat} {ρ:Nat → Value} {H:Hp} {w:World} {L:List Res} {g T ty i:Nat} {x y:Operand} {cs cs':List Value} {v:Value} (h:St H w (obj g T cs::L)) (hx:Ev N ρ x (.pointer (some ⟨g,i,none⟩))) (hy:Ev N ρ y v) (hsz:v.cells.size = 4) (hl:i + 4 ≤ cs.length) (h1:∀ u ∈ v.cells.toList,u.oneCell' = true) (hsp:splice cs i v.cells.toList = cs'):∃ w',Ex0 Try.prog N ρ w (.store 52 x y) ty w'∧St H w' (obj g T cs'::L):=by
  obtain ⟨i0,e1,_,e3,_⟩:=inf52
  exact m_store e1 h hx hy (by rw [e3]; exact hsz) (by rw [e3]; exact hl) h1 hsp
theorem al52 {N:Nat} {ρ:Nat → Value} {H:Hp} {w:World} {L:List Res} {ty:Nat} {cs:List Value} (h:St H w L) (hv:(.agg #[.int .u64 0,.int .i64 0,.int .i64 0,.slice none 0 0]:Value).cells = cs.toArray):∃ v' w',Ex Try.prog N ρ w (.alloc 52) ty v' w'∧∃ g,v' = .pointer (some ⟨g,0,none⟩)∧St H w' (obj g 52 cs::L):=by
  obtain ⟨i0,e1,e2,_,_⟩:=inf52
  exact m_alloc e1 e2 h hv
theorem ag95:aggT Try.prog 95 = true:=by kernel_rfl
theorem ld95 {N:Nat} {ρ:Nat → Value} {w:World} {ty:Nat} {x:Operand} {ad:Addr} {cs:List Value} (hx:Ev N ρ x (.pointer (some ad))) (hc:At w ad cs) (hl:cs.length = 4):Ex Try.prog N ρ w (.load 95 x) ty (.agg cs.toArray) w:=by
  obtain ⟨i0,h1,_,h3,_⟩:=inf95
  exact x_loadA ag95 h1 hx hc (by rw [h3]; exact hl)
theorem lv95 {w:World} {ad:Addr} {cs:List Value} (hc:At w ad cs) (hl:cs.length = 4):(loadVar 95 ad).run Try.prog w = .ok (.agg cs.toArray) w:=by
  obtain ⟨i0,h1,_,h3,_⟩:=inf95
  exact run_loadVar_t ag95 h1 hc (by rw [h3]; exact hl)
theorem sto95 {N:Nat} {ρ:Nat → Value} {H:Hp} {w:World} {L:List Res} {g T ty i:Nat} {x y:Operand} {cs cs':List Value} {v:Value} (h:St H w (obj g T cs::L)) (hx:Ev N ρ x (.pointer (some ⟨g,i,none⟩))) (hy:Ev N ρ y v) (hsz:v.cells.size = 4) (hl:i + 4 ≤ cs.length) (h1:∀ u ∈ v.cells.toList,u.oneCell' = true) (hsp:splice cs i v.cells.toList = cs'):∃ w',Ex0 Try.prog N ρ w (.store 95 x y) ty w'∧St H w' (obj g T cs'::L):=by
  obtain ⟨i0,e1,_,e3,_⟩:=inf95
  exact m_store e1 h hx hy (by rw [e3]; exact hsz) (by rw [e3]; exact hl) h1 hsp
theorem al95 {N:Nat} {ρ:Nat → Value} {H:Hp} {w:World} {L:List Res} {ty:Nat} {cs:List Value} (h:St H w L) (hv:(.agg #[.int .u8 0,.int .u8 0,.int .u8 0,.int .u8 0]:Value).cells = cs.toArray):∃ v' w',Ex Try.prog N ρ w (.alloc 95) ty v' w'∧∃ g,v' = .pointer (some ⟨g,0,none⟩)∧St H w' (obj g 95 cs::L):=by
  obtain ⟨i0,e1,e2,_,_⟩:=inf95
  exact m_alloc e1 e2 h hv
theorem fa24_0 {N:Nat} {ρ:Nat → Value} {w:World} {ty b o:Nat} {x:Operand} (hx:Ev N ρ x (.pointer (some ⟨b,o,none⟩))):Ex Try.prog N ρ w (.fieldAddr 24 x 0) ty (.pointer (some ⟨b,o + 0,none⟩)) w:=by
  obtain ⟨i0,h1,_,h3,_⟩:=inf22
  have:=x_fieldAddr (ty:=ty) (w:=w) Try.underlying24 (f:=0) rfl h1 (by rw [h3]; decide) hx
  rwa [add_none] at this
theorem fa24_1 {N:Nat} {ρ:Nat → Value} {w:World} {ty b o:Nat} {x:Operand} (hx:Ev N ρ x (.pointer (some ⟨b,o,none⟩))):Ex Try.prog N ρ w (.fieldAddr 24 x 1) ty (.pointer (some ⟨b,o + 1,none⟩)) w:=by
  obtain ⟨i0,h1,_,h3,_⟩:=inf3
  have:=x_fieldAddr (ty:=ty) (w:=w) Try.underlying24 (f:=1) rfl h1 (by rw [h3]; decide) hx
  rwa [add_none] at this
theorem fa30_0 {N:Nat} {ρ:Nat → Value} {w:World} {ty b o:Nat} {x:Operand} (hx:Ev N ρ x (.pointer (some ⟨b,o,none⟩))):Ex Try.prog N ρ w (.fieldAddr 30 x 0) ty (.pointer (some ⟨b,o + 0,none⟩)) w:=by
  obtain ⟨i0,h1,_,h3,_⟩:=inf5
  have:=x_fieldAddr (ty:=ty) (w:=w) Try.underlying30 (f:=0) rfl h1 (by rw [h3]; decide) hx
  rwa [add_none] at this
theorem fa30_1 {N:Nat} {ρ:Nat → Value} {w:World} {ty b o:Nat} {x:Operand} (hx:Ev N ρ x (.pointer (some ⟨b,o,none⟩))):Ex Try.prog N ρ w (.fieldAddr 30 x 1) ty (.pointer (some ⟨b,o + 1,none⟩)) w:=by
  obtain ⟨i0,h1,_,h3,_⟩:=inf3
  have:=x_fieldAddr (ty:=ty) (w:=w) Try.underlying30 (f:=1) rfl h1 (by rw [h3]; decide) hx
  rwa [add_none] at this
theorem fa30_2 {N:Nat} {ρ:Nat → Value} {w:World} {ty b o:Nat} {x:Operand} (hx:Ev N ρ x (.pointer (some ⟨b,o,none⟩))):Ex Try.prog N ρ w (.fieldAddr 30 x 2) ty (.pointer (some ⟨b,o + 2,none⟩)) w:=by
  obtain ⟨i0,h1,_,h3,_⟩:=inf24
  have:=x_fieldAddr (ty:=ty) (w:=w) Try.underlying30 (f:=2) rfl h1 (by rw [h3]; decide) hx
  rwa [add_none] at this
theorem fa30_3 {N:Nat} {ρ:Nat → Value} {w:World} {ty b o:Nat} {x:Operand} (hx:Ev N ρ x (.pointer (some ⟨b,o,none⟩))):Ex Try.prog N ρ w (.fieldAddr 30 x 3) ty (.pointer (some ⟨b,o + 4,none⟩)) w:=by
  obtain ⟨i0,h1,_,h3,_⟩:=inf25
  have:=x_fieldAddr (ty:=ty) (w:=w) Try.underlying30 (f:=3) rfl h1 (by rw [h3]; decide) hx
  rwa [add_none] at this
theorem fa30_4 {N:Nat} {ρ:Nat → Value} {w:World} {ty b o:Nat} {x:Operand} (hx:Ev N ρ x (.pointer (some ⟨b,o,none⟩))):Ex Try.prog N ρ w (.fieldAddr 30 x 4) ty (.pointer (some ⟨b,o + 5,none⟩)) w:=by
  obtain ⟨i0,h1,_,h3,_⟩:=inf24
  have:=x_fieldAddr (ty:=ty) (w:=w) Try.underlying30 (f:=4) rfl h1 (by rw [h3]; decide) hx
  rwa [add_none] at this
theorem fa30_5 {N:Nat} {ρ:Nat → Value} {w:World} {ty b o:Nat} {x:Operand} (hx:Ev N ρ x (.pointer (some ⟨b,o,none⟩))):Ex Try.prog N ρ w (.fieldAddr 30 x 5) ty (.pointer (some ⟨b,o + 7,none⟩)) w:=by
  obtain ⟨i0,h1,_,h3,_⟩:=inf24
  have:=x_fieldAddr (ty:=ty) (w:=w) Try.underlying30 (f:=5) rfl h1 (by rw [h3]; decide) hx
  rwa [add_none] at this
theorem fa30_6 {N:Nat} {ρ:Nat → Value} {w:World} {ty b o:Nat} {x:Operand} (hx:Ev N ρ x (.pointer (some ⟨b,o,none⟩))):Ex Try.prog N ρ w (.fieldAddr 30 x 6) ty (.pointer (some ⟨b,o + 9,none⟩)) w:=by
  obtain ⟨i0,h1,_,h3,_⟩:=inf26
  have:=x_fieldAddr (ty:=ty) (w:=w) Try.underlying30 (f:=6) rfl h1 (by rw [h3]; decide) hx
  rwa [add_none] at this
theorem fa30_7 {N:Nat} {ρ:Nat → Value} {w:World} {ty b o:Nat} {x:Operand} (hx:Ev N ρ x (.pointer (some ⟨b,o,none⟩))):Ex Try.prog N ρ w (.fieldAddr 30 x 7) ty (.pointer (some ⟨b,o + 10,none⟩)) w:=by
  obtain ⟨i0,h1,_,h3,_⟩:=inf22
  have:=x_fieldAddr (ty:=ty) (w:=w) Try.underlying30 (f:=7) rfl h1 (by rw [h3]; decide) hx
  rwa [add_none] at this
theorem fa30_8 {N:Nat} {ρ:Nat → Value} {w:World} {ty b o:Nat} {x:Operand} (hx:Ev N ρ x (.pointer (some ⟨b,o,none⟩))):Ex Try.prog N ρ w (.fieldAddr 30 x 8) ty (.pointer (some ⟨b,o + 11,none⟩)) w:=by
  obtain ⟨i0,h1,_,h3,_⟩:=inf27
  have:=x_fieldAddr (ty:=ty) (w:=w) Try.underlying30 (f:=8) rfl h1 (by rw [h3]; decide) hx
  rwa [add_none] at this
theorem fa30_9 {N:Nat} {ρ:Nat → Value} {w:World} {ty b o:Nat} {x:Operand} (hx:Ev N ρ x (.pointer (some ⟨b,o,none⟩))):Ex Try.prog N ρ w (.fieldAddr 30 x 9) ty (.pointer (some ⟨b,o + 12,none⟩)) w:=by
  obtain ⟨i0,h1,_,h3,_⟩:=inf28
  have:=x_fieldAddr (ty:=ty) (w:=w) Try.underlying30 (f:=9) rfl h1 (by rw [h3]; decide) hx
  rwa [add_none] at this
theorem fa30_10 {N:Nat} {ρ:Nat → Value} {w:World} {ty b o:Nat} {x:Operand} (hx:Ev N ρ x (.pointer (some ⟨b,o,none⟩))):Ex Try.prog N ρ w (.fieldAddr 30 x 10) ty (.pointer (some ⟨b,o + 13,none⟩)) w:=by
  obtain ⟨i0,h1,_,h3,_⟩:=inf22
  have:=x_fieldAddr (ty:=ty) (w:=w) Try.underlying30 (f:=10) rfl h1 (by rw [h3]; decide) hx
  rwa [add_none] at this
theorem fa30_11 {N:Nat} {ρ:Nat → Value} {w:World} {ty b o:Nat} {x:Operand} (hx:Ev N ρ x (.pointer (some ⟨b,o,none⟩))):Ex Try.prog N ρ w (.fieldAddr 30 x 11) ty (.pointer (some ⟨b,o + 14,none⟩)) w:=by
  obtain ⟨i0,h1,_,h3,_⟩:=inf22
  have:=x_fieldAddr (ty:=ty) (w:=w) Try.underlying30 (f:=11) rfl h1 (by rw [h3]; decide) hx
  rwa [add_none] at this
theorem fa49_0 {N:Nat} {ρ:Nat → Value} {w:World} {ty b o:Nat} {x:Operand} (hx:Ev N ρ x (.pointer (some ⟨b,o,none⟩))):Ex Try.prog N ρ w (.fieldAddr 49 x 0) ty (.pointer (some ⟨b,o + 0,none⟩)) w:=by
  obtain ⟨i0,h1,_,h3,_⟩:=inf3
  have:=x_fieldAddr (ty:=ty) (w:=w) Try.underlying49 (f:=0) rfl h1 (by rw [h3]; decide) hx
  rwa [add_none] at this
theorem fa49_1 {N:Nat} {ρ:Nat → Value} {w:World} {ty b o:Nat} {x:Operand} (hx:Ev N ρ x (.pointer (some ⟨b,o,none⟩))):Ex Try.prog N ρ w (.fieldAddr 49 x 1) ty (.pointer (some ⟨b,o + 1,none⟩)) w:=by
  obtain ⟨i0,h1,_,h3,_⟩:=inf33
  have:=x_fieldAddr (ty:=ty) (w:=w) Try.underlying49 (f:=1) rfl h1 (by rw [h3]; decide) hx
  rwa [add_none] at this
theorem fa52_0 {N:Nat} {ρ:Nat → Value} {w:World} {ty b o:Nat} {x:Operand} (hx:Ev N ρ x (.pointer (some ⟨b,o,none⟩))):Ex Try.prog N ρ w (.fieldAddr 52 x 0) ty (.pointer (some ⟨b,o + 0,none⟩)) w:=by
  obtain ⟨i0,h1,_,h3,_⟩:=inf24
  have:=x_fieldAddr (ty:=ty) (w:=w) Try.underlying52 (f:=0) rfl h1 (by rw [h3]; decide) hx
  rwa [add_none] at this
theorem fa52_1 {N:Nat} {ρ:Nat → Value} {w:World} {ty b o:Nat} {x:Operand} (hx:Ev N ρ x (.pointer (some ⟨b,o,none⟩))):Ex Try.prog N ρ w (.fieldAddr 52 x 1) ty (.pointer (some ⟨b,o + 2,none⟩)) w:=by
  obtain ⟨i0,h1,_,h3,_⟩:=inf3
  have:=x_fieldAddr (ty:=ty) (w:=w) Try.underlying52 (f:=1) rfl h1 (by rw [h3]; decide) hx
  rwa [add_none] at this
theorem fa52_2 {N:Nat} {ρ:Nat → Value} {w:World} {ty b o:Nat} {x:Operand} (hx:Ev N ρ x (.pointer (some ⟨b,o,none⟩))):Ex Try.prog N ρ w (.fieldAddr 52 x 2) ty (.pointer (some ⟨b,o + 3,none⟩)) w:=by
  obtain ⟨i0,h1,_,h3,_⟩:=inf28
  have:=x_fieldAddr (ty:=ty) (w:=w) Try.underlying52 (f:=2) rfl h1 (by rw [h3]; decide) hx
  rwa [add_none] at this
theorem fa58_0 {N:Nat} {ρ:Nat → Value} {w:World} {ty b o:Nat} {x:Operand} (hx:Ev N ρ x (.pointer (some ⟨b,o,none⟩))):Ex Try.prog N ρ w (.fieldAddr 58 x 0) ty (.pointer (some ⟨b,o + 0,none⟩)) w:=by
  obtain ⟨i0,h1,_,h3,_⟩:=inf33
  have:=x_fieldAddr (ty:=ty) (w:=w) Try.underlying58 (f:=0) rfl h1 (by rw [h3]; decide) hx
  rwa [add_none] at this
theorem fa58_1 {N:Nat} {ρ:Nat → Value} {w:World} {ty b o:Nat} {x:Operand} (hx:Ev N ρ x (.pointer (some ⟨b,o,none⟩))):Ex Try.prog N ρ w (.fieldAddr 58 x 1) ty (.pointer (some ⟨b,o + 1,none⟩)) w:=by
  obtain ⟨i0,h1,_,h3,_⟩:=inf4
  have:=x_fieldAddr (ty:=ty) (w:=w) Try.underlying58 (f:=1) rfl h1 (by rw [h3]; decide) hx
  rwa [add_none] at this
theorem fa98_0 {N:Nat} {ρ:Nat → Value} {w:World} {ty b o:Nat} {x:Operand} (hx:Ev N ρ x (.pointer (some ⟨b,o,none⟩))):Ex Try.prog N ρ w (.fieldAddr 98 x 0) ty (.pointer (some ⟨b,o + 0,none⟩)) w:=by
  obtain ⟨i0,h1,_,h3,_⟩:=inf33
  have:=x_fieldAddr (ty:=ty) (w:=w) Try.underlying98 (f:=0) rfl h1 (by rw [h3]; decide) hx
  rwa [add_none] at this
theorem fa98_1 {N:Nat} {ρ:Nat → Value} {w:World} {ty b o:Nat} {x:Operand} (hx:Ev N ρ x (.pointer (some ⟨b,o,none⟩))):Ex Try.prog N ρ w (.fieldAddr 98 x 1) ty (.pointer (some ⟨b,o + 1,none⟩)) w:=by
  obtain ⟨i0,h1,_,h3,_⟩:=inf4
  have:=x_fieldAddr (ty:=ty) (w:=w) Try.underlying98 (f:=1) rfl h1 (by rw [h3]; decide) hx
  rwa [add_none] at this
theorem ix26 {N:Nat} {ρ:Nat → Value} {w:World} {ty b o n c:Nat} {A:Option Addr} {x y:Operand} {k:IntKind} {i:Int} (hx:Ev N ρ x (.slice A n c)) (hA:A = some ⟨b,o,none⟩) (hy:Ev N ρ y (.int k i)) (h0:0 ≤ i) (h1:i < n):Ex Try.prog N ρ w (.indexAddr 26 x y) ty (.pointer (some ⟨b,o + i.toNat * 4,none⟩)) w:=by
  obtain ⟨i0,e1,_,e3,_⟩:=inf52
  subst hA
  have:=x_indexAddr (ty:=ty) (w:=w) Try.underlying26 e1 hx hy h0 h1
  rwa [add_none,e3] at this
theorem ixo26 {N:Nat} {ρ:Nat → Value} {w:World} {ty b o o' n c:Nat} {A:Option Addr} {x y:Operand} {k:IntKind} {i:Int} (hx:Ev N ρ x (.slice A n c)) (hA:A = some ⟨b,o,none⟩) (hy:Ev N ρ y (.int k i)) (h0:0 ≤ i) (h1:i < n) (ho:o + i.toNat * 4 = o'):Ex Try.prog N ρ w (.indexAddr 26 x y) ty (.pointer (some ⟨b,o',none⟩)) w:=by
  subst ho
  exact ix26 hx hA hy h0 h1
theorem ix27 {N:Nat} {ρ:Nat → Value} {w:World} {ty b o n c:Nat} {A:Option Addr} {x y:Operand} {k:IntKind} {i:Int} (hx:Ev N ρ x (.slice A n c)) (hA:A = some ⟨b,o,none⟩) (hy:Ev N ρ y (.int k i)) (h0:0 ≤ i) (h1:i < n):Ex Try.prog N ρ w (.indexAddr 27 x y) ty (.pointer (some ⟨b,o + i.toNat * 1,none⟩)) w:=by
  obtain ⟨i0,e1,_,e3,_⟩:=inf33
  subst hA
  have:=x_indexAddr (ty:=ty) (w:=w) Try.underlying27 e1 hx hy h0 h1
  rwa [add_none,e3] at this
theorem ixo27 {N:Nat} {ρ:Nat → Value} {w:World} {ty b o o' n c:Nat} {A:Option Addr} {x y:Operand} {k:IntKind} {i:Int} (hx:Ev N ρ x (.slice A n c)) (hA:A = some ⟨b,o,none⟩) (hy:Ev N ρ y (.int k i)) (h0:0 ≤ i) (h1:i < n) (ho:o + i.toNat * 1 = o'):Ex Try.prog N ρ w (.indexAddr 27 x y) ty (.pointer (some ⟨b,o',none⟩)) w:=by
  subst ho
  exact ix27 hx hA hy h0 h1
theorem ix28 {N:Nat} {ρ:Nat → Value} {w:World} {ty b o n c:Nat} {A:Option Addr} {x y:Operand} {k:IntKind} {i:Int} (hx:Ev N ρ x (.slice A n c)) (hA:A = some ⟨b,o,none⟩) (hy:Ev N ρ y (.int k i)) (h0:0 ≤ i) (h1:i < n):Ex Try.prog N ρ w (.indexAddr 28 x y) ty (.pointer (some ⟨b,o + i.toNat * 2,none⟩)) w:=by
  obtain ⟨i0,e1,_,e3,_⟩:=inf49
  subst hA
  have:=x_indexAddr (ty:=ty) (w:=w) Try.underlying28 e1 hx hy h0 h1
  rwa [add_none,e3] at this
theorem ixo28 {N:Nat} {ρ:Nat → Value} {w:World} {ty b o o' n c:Nat} {A:Option Addr} {x y:Operand} {k:IntKind} {i:Int} (hx:Ev N ρ x (.slice A n c)) (hA:A = some ⟨b,o,none⟩) (hy:Ev N ρ y (.int k i)) (h0:0 ≤ i) (h1:i < n) (ho:o + i.toNat * 2 = o'):Ex Try.prog N ρ w (.indexAddr 28 x y) ty (.pointer (some ⟨b,o',none⟩)) w:=by
  subst ho
  exact ix28 hx hA hy h0 h1
theorem ix33 {N:Nat} {ρ:Nat → Value} {w:World} {ty b o n c:Nat} {A:Option Addr} {x y:Operand} {k:IntKind} {i:Int} (hx:Ev N ρ x (.slice A n c)) (hA:A = some ⟨b,o,none⟩) (hy:Ev N ρ y (.int k i)) (h0:0 ≤ i) (h1:i < n):Ex Try.prog N ρ w (.indexAddr 33 x y) ty (.pointer (some ⟨b,o + i.toNat * 1,none⟩)) w:=by
  obtain ⟨i0,e1,_,e3,_⟩:=inf5
  subst hA
  have:=x_indexAddr (ty:=ty) (w:=w) Try.underlying33 e1 hx hy h0 h1
  rwa [add_none,e3] at this
theorem ixo33 {N:Nat} {ρ:Nat → Value} {w:World} {ty b o o' n c:Nat} {A:Option Addr} {x y:Operand} {k:IntKind} {i:Int} (hx:Ev N ρ x (.slice A n c)) (hA:A = some ⟨b,o,none⟩) (hy:Ev N ρ y (.int k i)) (h0:0 ≤ i) (h1:i < n) (ho:o + i.toNat * 1 = o'):Ex Try.prog N ρ w (.indexAddr 33 x y) ty (.pointer (some ⟨b,o',none⟩)) w:=by
  subst ho
  exact ix33 hx hA hy h0 h1
theorem bl24 {N:Nat} {ρ:Nat → Value} {w:World} {ty:Nat} {parts:List (Nat × Operand)} {ps:List (Nat × Value)} {cs:List Value} (hps:Evp N ρ parts ps) (hf:fillL (([(0,1),(1,1)]:List (Nat × Nat))[·]?) [.int .u64 0,.int .i64 0] ps = some cs):Ex Try.prog N ρ w (.build 24 parts.toArray) ty (.agg cs.toArray) w :=
  x_bld (places:=[(0,1),(1,1)]) Try.underlying24 inf24 hps (by kernel_rfl) hf
theorem bl30 {N:Nat} {ρ:Nat → Value} {w:World} {ty:Nat} {parts:List (Nat × Operand)} {ps:List (Nat × Value)} {cs:List Value} (hps:Evp N ρ parts ps) (hf:fillL (([(0,1),(1,1),(2,2),(4,1),(5,2),(7,2),(9,1),(10,1),(11,1),(12,1),(13,1),(14,1)]:List (Nat × Nat))[·]?) [.int .u8 0,.int .i64 0,.int .u64 0,.int .i64 0,.int .u16 0,.int .u64 0,.int .i64 0,.int .u64 0,.int .i64 0,.slice none 0 0,.int .u64 0,.slice none 0 0,.slice none 0 0,.int .u64 0,.int .u64 0] ps = some cs):Ex Try.prog N ρ w (.build 30 parts.toArray) ty (.agg cs.toArray) w :=
  x_bld (places:=[(0,1),(1,1),(2,2),(4,1),(5,2),(7,2),(9,1),(10,1),(11,1),(12,1),(13,1),(14,1)]) Try.underlying30 inf30 hps (by kernel_rfl) hf
theorem bl49 {N:Nat} {ρ:Nat → Value} {w:World} {ty:Nat} {parts:List (Nat × Operand)} {ps:List (Nat × Value)} {cs:List Value} (hps:Evp N ρ parts ps) (hf:fillL (([(0,1),(1,1)]:List (Nat × Nat))[·]?) [.int .i64 0,.slice none 0 0] ps = some cs):Ex Try.prog N ρ w (.build 49 parts.toArray) ty (.agg cs.toArray) w :=
  x_bld (places:=[(0,1),(1,1)]) Try.underlying49 inf49 hps (by kernel_rfl) hf
theorem bl52 {N:Nat} {ρ:Nat → Value} {w:World} {ty:Nat} {parts:List (Nat × Operand)} {ps:List (Nat × Value)} {cs:List Value} (hps:Evp N ρ parts ps) (hf:fillL (([(0,2),(2,1),(3,1)]:List (Nat × Nat))[·]?) [.int .u64 0,.int .i64 0,.int .i64 0,.slice none 0 0] ps = some cs):Ex Try.prog N ρ w (.build 52 parts.toArray) ty (.agg cs.toArray) w :=
  x_bld (places:=[(0,2),(2,1),(3,1)]) Try.underlying52 inf52 hps (by kernel_rfl) hf
theorem bl58 {N:Nat} {ρ:Nat → Value} {w:World} {ty:Nat} {parts:List (Nat × Operand)} {ps:List (Nat × Value)} {cs:List Value} (hps:Evp N ρ parts ps) (hf:fillL (([(0,1),(1,1)]:List (Nat × Nat))[·]?) [.slice none 0 0,.bool false] ps = some cs):Ex Try.prog N ρ w (.build 58 parts.toArray) ty (.agg cs.toArray) w :=
  x_bld (places:=[(0,1),(1,1)]) Try.underlying58 inf58 hps (by kernel_rfl) hf
theorem bl98 {N:Nat} {ρ:Nat → Value} {w:World} {ty:Nat} {parts:List (Nat × Operand)} {ps:List (Nat × Value)} {cs:List Value} (hps:Evp N ρ parts ps) (hf:fillL (([(0,1),(1,1)]:List (Nat × Nat))[·]?) [.slice none 0 0,.bool false] ps = some cs):Ex Try.prog N ρ w (.build 98 parts.toArray) ty (.agg cs.toArray) w :=
  x_bld (places:=[(0,1),(1,1)]) Try.underlying98 inf98 hps (by kernel_rfl) hf
theorem eqs24 (d:Nat) (w:World) (x0 y0:Int) (x1 y1:Int):(Op.equalIn (d + 2) 24 (.agg #[.int .u64 x0,.int .i64 x1]) (.agg #[.int .u64 y0,.int .i64 y1])).run Try.prog w = .ok (((x0 == y0) && ((x1 == y1) && true))) w:=by
  exact eq_struct (d:=d + 1) Try.underlying24 (by kernel_rfl) (.cons (by kernel_rfl) (part_one (by kernel_rfl) rfl) (part_one (by kernel_rfl) rfl) (eq_int' (d:=d + 0) Try.underlying22 _ _) (.cons (by kernel_rfl) (part_one (by kernel_rfl) rfl) (part_one (by kernel_rfl) rfl) (eq_int' (d:=d + 0) Try.underlying3 _ _) EqF.nil))
theorem eqg24:Try.prog.eqGuardType Try.prog.depth 24 = false:=by kernel_rfl
theorem eqg95:Try.prog.eqGuardType Try.prog.depth 95 = false:=by kernel_rfl
theorem cb10:Cb Try.prog 10:=⟨Try.f10,Try.func10,by kernel_rfl,by kernel_rfl⟩
theorem cb11:Cb Try.prog 11:=⟨Try.f11,Try.func11,by kernel_rfl,by kernel_rfl⟩
theorem cb12:Cb Try.prog 12:=⟨Try.f12,Try.func12,by kernel_rfl,by kernel_rfl⟩
theorem cb13:Cb Try.prog 13:=⟨Try.f13,Try.func13,by kernel_rfl,by kernel_rfl⟩
theorem cb14:Cb Try.prog 14:=⟨Try.f14,Try.func14,by kernel_rfl,by kernel_rfl⟩
theorem cb15:Cb Try.prog 15:=⟨Try.f15,Try.func15,by kernel_rfl,by kernel_rfl⟩
theorem cb16:Cb Try.prog 16:=⟨Try.f16,Try.func16,by kernel_rfl,by kernel_rfl⟩
theorem cb17:Cb Try.prog 17:=⟨Try.f17,Try.func17,by kernel_rfl,by kernel_rfl⟩
theorem cb19:Cb Try.prog 19:=⟨Try.f19,Try.func19,by kernel_rfl,by kernel_rfl⟩
theorem cb20:Cb Try.prog 20:=⟨Try.f20,Try.func20,by kernel_rfl,by kernel_rfl⟩
theorem cb21:Cb Try.prog 21:=⟨Try.f21,Try.func21,by kernel_rfl,by kernel_rfl⟩
theorem cb22:Cb Try.prog 22:=⟨Try.f22,Try.func22,by kernel_rfl,by kernel_rfl⟩
theorem cb23:Cb Try.prog 23:=⟨Try.f23,Try.func23,by kernel_rfl,by kernel_rfl⟩
theorem cb24:Cb Try.prog 24:=⟨Try.f24,Try.func24,by kernel_rfl,by kernel_rfl⟩
theorem cb25:Cb Try.prog 25:=⟨Try.f25,Try.func25,by kernel_rfl,by kernel_rfl⟩
theorem cb26:Cb Try.prog 26:=⟨Try.f26,Try.func26,by kernel_rfl,by kernel_rfl⟩
theorem cb27:Cb Try.prog 27:=⟨Try.f27,Try.func27,by kernel_rfl,by kernel_rfl⟩
theorem cb28:Cb Try.prog 28:=⟨Try.f28,Try.func28,by kernel_rfl,by kernel_rfl⟩
theorem cb29:Cb Try.prog 29:=⟨Try.f29,Try.func29,by kernel_rfl,by kernel_rfl⟩
theorem cb30:Cb Try.prog 30:=⟨Try.f30,Try.func30,by kernel_rfl,by kernel_rfl⟩
theorem cb31:Cb Try.prog 31:=⟨Try.f31,Try.func31,by kernel_rfl,by kernel_rfl⟩
theorem cb32:Cb Try.prog 32:=⟨Try.f32,Try.func32,by kernel_rfl,by kernel_rfl⟩
theorem cb33:Cb Try.prog 33:=⟨Try.f33,Try.func33,by kernel_rfl,by kernel_rfl⟩
theorem cb34:Cb Try.prog 34:=⟨Try.f34,Try.func34,by kernel_rfl,by kernel_rfl⟩
theorem cb35:Cb Try.prog 35:=⟨Try.f35,Try.func35,by kernel_rfl,by kernel_rfl⟩
theorem cb36:Cb Try.prog 36:=⟨Try.f36,Try.func36,by kernel_rfl,by kernel_rfl⟩
theorem cb37:Cb Try.prog 37:=⟨Try.f37,Try.func37,by kernel_rfl,by kernel_rfl⟩
theorem cb38:Cb Try.prog 38:=⟨Try.f38,Try.func38,by kernel_rfl,by kernel_rfl⟩
theorem cb39:Cb Try.prog 39:=⟨Try.f39,Try.func39,by kernel_rfl,by kernel_rfl⟩
theorem cb40:Cb Try.prog 40:=⟨Try.f40,Try.func40,by kernel_rfl,by kernel_rfl⟩
theorem cb41:Cb Try.prog 41:=⟨Try.f41,Try.func41,by kernel_rfl,by kernel_rfl⟩
theorem cb42:Cb Try.prog 42:=⟨Try.f42,Try.func42,by kernel_rfl,by kernel_rfl⟩
theorem cb43:Cb Try.prog 43:=⟨Try.f43,Try.func43,by kernel_rfl,by kernel_rfl⟩
theorem cb44:Cb Try.prog 44:=⟨Try.f44,Try.func44,by kernel_rfl,by kernel_rfl⟩
theorem cb45:Cb Try.prog 45:=⟨Try.f45,Try.func45,by kernel_rfl,by kernel_rfl⟩
theorem cb46:Cb Try.prog 46:=⟨Try.f46,Try.func46,by kernel_rfl,by kernel_rfl⟩
theorem cb54:Cb Try.prog 54:=⟨Try.f54,Try.func54,by kernel_rfl,by kernel_rfl⟩
theorem cb55:Cb Try.prog 55:=⟨Try.f55,Try.func55,by kernel_rfl,by kernel_rfl⟩
theorem cb56:Cb Try.prog 56:=⟨Try.f56,Try.func56,by kernel_rfl,by kernel_rfl⟩
theorem cb57:Cb Try.prog 57:=⟨Try.f57,Try.func57,by kernel_rfl,by kernel_rfl⟩
theorem cb58:Cb Try.prog 58:=⟨Try.f58,Try.func58,by kernel_rfl,by kernel_rfl⟩
theorem cb59:Cb Try.prog 59:=⟨Try.f59,Try.func59,by kernel_rfl,by kernel_rfl⟩
theorem cb60:Cb Try.prog 60:=⟨Try.f60,Try.func60,by kernel_rfl,by kernel_rfl⟩
theorem cb61:Cb Try.prog 61:=⟨Try.f61,Try.func61,by kernel_rfl,by kernel_rfl⟩
theorem cb62:Cb Try.prog 62:=⟨Try.f62,Try.func62,by kernel_rfl,by kernel_rfl⟩
theorem cb63:Cb Try.prog 63:=⟨Try.f63,Try.func63,by kernel_rfl,by kernel_rfl⟩
theorem cb64:Cb Try.prog 64:=⟨Try.f64,Try.func64,by kernel_rfl,by kernel_rfl⟩
theorem cb65:Cb Try.prog 65:=⟨Try.f65,Try.func65,by kernel_rfl,by kernel_rfl⟩
theorem cb66:Cb Try.prog 66:=⟨Try.f66,Try.func66,by kernel_rfl,by kernel_rfl⟩
end Go.Proofs.Ytlfihfmmhhcigaa

set_option linter.unusedVariables false
namespace Go.FM
open Go
theorem c_cut {P:Program} {Q:Exit → Act → World → Prop} {N:Nat} {ρ:Nat → Value} {w:World} {x y:Code} (I:(Nat → Value) → World → Prop) (h:x.wp P (Exit.then (fun a' w' => ∃ ρ',a' = en N ρ'∧I ρ' w') Q) (en N ρ) w)
    (k:∀ ρ w,I ρ w → y.wp P Q (en N ρ) w):(Code.seq x y).wp P Q (en N ρ) w :=
  c_seq (wp_mono h fun e a w hq => by
    cases e with
    | normal => obtain ⟨ρ',rfl,hi⟩:=hq; exact k ρ' w hi
    | _ => exact hq)
theorem cVb {a b:Bool} (h:a = b):Value.bool a = Value.bool b:=congrArg Value.bool h
theorem yk {N:Nat} {ρ:Nat → Value} {ops:Array Oper} {j:Nat} (dj:Nat) (b:Bool) {x:Bool} (ho:(ops[j]?).bind (·.dst) = some dj) (hd:Nat.blt dj N = true) (h:x = b) (hv:ρ dj = .bool x:=by rfl):yielded ops (en N ρ).tmps j = some b:=yl ho hd (hv.trans (congrArg Value.bool h))
theorem St.p1 {H:Hp} {w:World} {r0 r1:Res} {L:List Res} (h:St H w (r0::r1::L)):St H w (r1::r0::L):=h.pick 1 rfl rfl
theorem St.p2 {H:Hp} {w:World} {r0 r1 r2:Res} {L:List Res} (h:St H w (r0::r1::r2::L)):St H w (r2::r0::r1::L):=h.pick 2 rfl rfl
theorem St.p3 {H:Hp} {w:World} {r0 r1 r2 r3:Res} {L:List Res} (h:St H w (r0::r1::r2::r3::L)):St H w (r3::r0::r1::r2::L):=h.pick 3 rfl rfl
theorem St.p4 {H:Hp} {w:World} {r0 r1 r2 r3 r4:Res} {L:List Res} (h:St H w (r0::r1::r2::r3::r4::L)):St H w (r4::r0::r1::r2::r3::L):=h.pick 4 rfl rfl
theorem St.p5 {H:Hp} {w:World} {r0 r1 r2 r3 r4 r5:Res} {L:List Res} (h:St H w (r0::r1::r2::r3::r4::r5::L)):St H w (r5::r0::r1::r2::r3::r4::L):=h.pick 5 rfl rfl
theorem St.p6 {H:Hp} {w:World} {r0 r1 r2 r3 r4 r5 r6:Res} {L:List Res} (h:St H w (r0::r1::r2::r3::r4::r5::r6::L)):St H w (r6::r0::r1::r2::r3::r4::r5::L):=h.pick 6 rfl rfl
end Go.FM

set_option linter.unusedVariables false
set_option linter.unusedSimpArgs false
namespace Go.FM
open Go
def PlB (H:Hp) (A:Option Addr):Prop:=∀ a,A = some a → ∃ cs E,H.blk a.block = some (.cells cs E (0,0))
theorem PlB.nil (H:Hp):PlB H none:=fun a h => by cases h
theorem PlB.mono {H H':Hp} {A:Option Addr} (h:PlB H A) (hl:H.le H'):PlB H' A:=fun a e => by
  obtain ⟨cs,E,h1⟩:=h a e
  exact ⟨cs,E,hl.blk _ _ h1⟩
def kBsP:Kd (List Nat) where
  sz:=1
  pos:=by decide
  rep H x cs:=∃ A n c,cs = [.slice A n c]∧By H A n c x∧PlB H A
  len h:=by obtain ⟨A,n,c,rfl,_⟩:=h; rfl
  one h:=by obtain ⟨A,n,c,rfl,_⟩:=h; simp [Value.oneCell']
  mono hl h:=by obtain ⟨A,n,c,rfl,h,h'⟩:=h; exact ⟨A,n,c,rfl,h.mono hl,h'.mono hl⟩
  bts:=24
  bts0:=by decide
def kItemP:Kd GItem where
  sz:=2
  pos:=by decide
  rep H x cs:=∃ A n c,cs = [.int .i64 x.From,.slice A n c]∧IB (x.From)∧By H A n c x.M∧PlB H A
  len h:=by obtain ⟨A,n,c,rfl,_⟩:=h; rfl
  one h:=by obtain ⟨A,n,c,rfl,_⟩:=h; simp [Value.oneCell']
  mono hl h:=by obtain ⟨A,n,c,rfl,h0,h1,h2⟩:=h; exact ⟨A,n,c,rfl,h0,h1.mono hl,h2.mono hl⟩
  bts:=32
  bts0:=by decide
def kFrameP:Kd GFrame where
  sz:=15
  pos:=by decide
  rep H x cs:=∃ (A1:Option Addr) (n2 c3:Nat),∃ (A4:Option Addr) (n5 c6:Nat),∃ (A7:Option Addr) (n8 c9:Nat),cs = [.int .u8 (x.Kind:Int),.int .i64 x.From,.int .u64 (x.ID.N:Int),.int .i64 x.ID.P,.int .u16 (x.Set:Int),.int .u64 (x.Cur.N:Int),.int .i64 x.Cur.P,.int .u64 (x.Prom.N:Int),.int .i64 x.Prom.P,.slice A1 n2 c3,.int .u64 (x.Base:Int),.slice A4 n5 c6,.slice A7 n8 c9,.int .u64 (x.Ack:Int),.int .u64 (x.Safe:Int)]∧x.Kind < 256∧IB (x.From)∧x.ID.N < 18446744073709551616∧IB (x.ID.P)∧x.Set < 65536∧x.Cur.N < 18446744073709551616∧IB (x.Cur.P)∧x.Prom.N < 18446744073709551616∧IB (x.Prom.P)∧Sl kState H A1 n2 c3 x.States∧x.Base < 18446744073709551616∧Sl kBsP H A4 n5 c6 x.Msgs∧Sl kItemP H A7 n8 c9 x.Items∧x.Ack < 18446744073709551616∧x.Safe < 18446744073709551616
  len h:=by obtain ⟨A1,n2,c3,A4,n5,c6,A7,n8,c9,rfl,_⟩:=h; rfl
  one h:=by obtain ⟨A1,n2,c3,A4,n5,c6,A7,n8,c9,rfl,_⟩:=h; simp [Value.oneCell']
  mono hl h:=by obtain ⟨A1,n2,c3,A4,n5,c6,A7,n8,c9,rfl,h0,h1,h2,h3,h4,h5,h6,h7,h8,h9,h10,h11,h12,h13,h14⟩:=h; exact ⟨A1,n2,c3,A4,n5,c6,A7,n8,c9,rfl,h0,h1,h2,h3,h4,h5,h6,h7,h8,h9.mono hl,h10,h11.mono hl,h12.mono hl,h13,h14⟩
  bts:=184
  bts0:=by decide
theorem Sl.conv {α:Type} {d d':Kd α} {H:Hp} {A:Option Addr} {n c:Nat} {xs:List α} (h:Sl d H A n c xs) (hs:d.sz = d'.sz) (hb:d.bts = d'.bts) (hr:∀ x cs,d.rep H x cs → d'.rep H x cs):Sl d' H A n c xs:=by
  obtain ⟨⟨cells,h1,h2,h3⟩,hl,hle,hm,hbn⟩:=h
  refine ⟨⟨cells,h1,by rw [← hs]; exact h2,fun i x hx => ?_⟩,hl,hle,hm,by rw [← hb]; exact hbn⟩
  obtain ⟨c,h4,h5⟩:=h3 i x hx
  exact ⟨c,hr _ _ h4,by rw [← hs]; exact h5⟩
section
variable {H:Hp} {A:Option Addr} {n c:Nat}
theorem Sl.ofP {xs:List (List Nat)} (h:Sl kBsP H A n c xs):Sl kBs H A n c xs:=h.conv rfl rfl fun x cs ⟨A,n,c,h1,h2,_⟩ => ⟨A,n,c,h1,h2⟩
theorem Sl.ofI {xs:List GItem} (h:Sl kItemP H A n c xs):Sl kItem H A n c xs:=h.conv rfl rfl fun x cs ⟨A,n,c,h1,h2,h3,_⟩ => ⟨A,n,c,h1,h2,h3⟩
end
theorem St.freezeBsP {H:Hp} {w:World} {L:List Res} {e n:Nat} {v:Value} {l:List Nat} (h:St H w (row e 1 v n (l.map encB)::L)) (ok:RowOk 1 v n (l.map encB)) (hs:Small l) (hn:n ≤ 140737488351232):∃ H' A c,H.le H'∧St H' w L∧v = .slice A n c∧By H' A n c l∧PlB H' A:=by
  rcases ok.2.2 with ⟨rfl,rfl⟩ | ⟨g,cap,rfl,hc⟩
  · have h0:l = []:=List.eq_nil_of_length_eq_zero (by have:=ok.1; simpa using this)
    subst h0
    exact ⟨H,none,0,Hp.le.refl H,h.drop,rfl,By.nil H none,PlB.nil H⟩
  · obtain ⟨o,⟨g',cap',cur,e1,rfl,_,hcm,_,h4⟩,h1,h2⟩:=h.freeze (g:=g) rfl
    injection e1 with _ _ e3
    subst e3
    refine ⟨_,_,cap,H.le_add g _ h1,h2,rfl,⟨⟨.inr ⟨g,0,cur,e,(0,0),rfl,Hp.add_at H g _,fun j u hu => ?_⟩,by have:=ok.1; simpa using this,hc,hcm,hs⟩,hn⟩,fun a ha => ?_⟩
    · rw [← h4,List.getElem?_take] at hu
      split at hu
      · simpa using hu
      · cases hu
    · injection ha with ha
      subst ha
      exact ⟨cur,e,Hp.add_at H g _⟩
def Hp.empty (H:Hp):Hp:={ H with blk:=fun _ => none }
def Hp.join (H G:Hp):Hp:={ H with blk:=fun b => match H.blk b with | some o => some o | none => G.blk b }
def Hp.rs (H:Hp) (N:Nat):List Res:=(List.range N).filterMap fun b => (H.blk b).map fun o => ⟨some b,fun x => x = o⟩
section
variable {H G J:Hp} {w w':World} {L:List Res} {N b:Nat} {o:Obj} {r:Res}
theorem rs_mem (hr:r ∈ H.rs N):∃ b o,b < N∧H.blk b = some o∧r = ⟨some b,fun x => x = o⟩:=by
  unfold Hp.rs at hr
  obtain ⟨b,hb,h⟩:=List.mem_filterMap.1 hr
  obtain ⟨o,h1,h2⟩:=Option.map_eq_some_iff.1 h
  exact ⟨b,o,List.mem_range.1 hb,h1,h2.symm⟩
theorem mem_rs (hb:b < N) (ho:H.blk b = some o):(⟨some b,fun x => x = o⟩:Res) ∈ H.rs N:=by
  unfold Hp.rs
  exact List.mem_filterMap.2 ⟨b,List.mem_range.2 hb,by rw [ho]; rfl⟩
theorem rs_sep:(H.rs N).Pairwise fun r s => ∀ g,r.key = some g → s.key ≠ some g:=by
  unfold Hp.rs
  rw [List.pairwise_filterMap]
  refine List.Pairwise.imp ?_ (List.pairwise_lt_range (n:=N))
  intro a b hab r hr s hs g hg
  obtain ⟨o,h1,h2⟩:=Option.map_eq_some_iff.1 hr
  obtain ⟨o',h3,h4⟩:=Option.map_eq_some_iff.1 hs
  subst h2; subst h4
  injection hg with hg
  intro h5
  injection h5 with h5
  omega
theorem St.toRes (h:St H w L):∃ N,St H.empty w (H.rs N ++ L)∧∀ b o,H.blk b = some o → b < N:=by
  refine ⟨w.heap.size,⟨h.os,h.out,h.tape,fun b o e => (by cases e),fun r hr g hg => ?_,List.pairwise_append.2 ⟨rs_sep,h.sep,fun r hr s hs g hg e => ?_⟩⟩,fun b o e => h.lt_fz e⟩
  · refine ⟨rfl,?_⟩
    rcases List.mem_append.1 hr with hr | hr
    · obtain ⟨b,o,_,ho,rfl⟩:=rs_mem hr
      injection hg with hg
      subst hg
      exact ⟨o,h.fz b o ho,rfl⟩
    · exact (h.own r hr g hg).2
  · obtain ⟨b,o,_,ho,rfl⟩:=rs_mem hr
    injection hg with hg
    subst hg
    have:=(h.own s hs b e).1
    rw [ho] at this; cases this
theorem join_left:H.le (H.join G):=⟨fun b o e => by simp only [Hp.join,e],rfl,rfl,rfl⟩
theorem St.fromRes (h:St G w (H.rs N ++ L)) (hN:∀ b o,H.blk b = some o → b < N) (hl:H.empty.le G):St (H.join G) w L∧H.le (H.join G)∧G.le (H.join G)∧∀ b o,H.blk b = some o → G.blk b = none:=by
  have hd:∀ b o,H.blk b = some o → G.blk b = none:=fun b o e => (h.own _ (List.mem_append_left _ (mem_rs (hN b o e) e)) b rfl).1
  have hsep:=List.pairwise_append.1 h.sep
  refine ⟨⟨h.os.trans hl.os,h.out.trans hl.out,h.tape.trans hl.tape,fun b o e => ?_,fun r hr g hg => ?_,hsep.2.1⟩,join_left,⟨fun b o e => ?_,hl.os.symm,hl.out.symm,hl.tape.symm⟩,hd⟩
  · simp only [Hp.join] at e
    cases hb:H.blk b with
    | none => rw [hb] at e; exact h.fz b o e
    | some o' =>
      rw [hb] at e
      injection e with e
      subst e
      obtain ⟨_,o2,h2,h3⟩:=h.own _ (List.mem_append_left _ (mem_rs (hN b _ hb) hb)) b rfl
      rw [h2,show o2 = o' from h3]
  · obtain ⟨h1,h2⟩:=h.own r (List.mem_append_right _ hr) g hg
    refine ⟨?_,h2⟩
    simp only [Hp.join]
    cases hb:H.blk g with
    | none => exact h1
    | some o => exact absurd hg (hsep.2.2 _ (mem_rs (hN g o hb) hb) r hr g rfl)
  · simp only [Hp.join]
    cases hb:H.blk b with
    | none => exact e
    | some o' => rw [hd b o' hb] at e; cases e
end
def likeV (u v:Value):Prop:=u = v ∨ ∃ m n:Nat,m < 256∧n < 256∧u = .int .u8 (m:Int)∧v = .int .u8 (n:Int)
def likeO (o o':Obj):Prop:=o = o' ∨ ∃ cs ds E fr,o = .cells cs E fr∧o' = .cells ds E fr∧cs.size = ds.size∧∀ (i:Nat) (u:Value),cs[i]? = some u → ∃ v,ds[i]? = some v∧likeV u v
def Like (G J:Hp):Prop:=∀ b o,G.blk b = some o → ∃ o',J.blk b = some o'∧likeO o o'
theorem Like.of {G J:Hp} (h:G.le J):Like G J:=fun b o e => ⟨o,h.blk b o e,.inl rfl⟩
theorem likeO_cells {cs:Array Value} {E:TypeId} {fr:Nat × Nat} {o':Obj} (h:likeO (.cells cs E fr) o'):∃ ds,o' = .cells ds E fr∧cs.size = ds.size∧∀ (i:Nat) (u:Value),cs[i]? = some u → ∃ v,ds[i]? = some v∧likeV u v:=by
  rcases h with rfl | ⟨cs',ds,E',fr',h1,h2,h3,h4⟩
  · exact ⟨cs,rfl,rfl,fun i u hu => ⟨u,hu,.inl rfl⟩⟩
  · injection h1 with e1 e2 e3
    subst e1; subst e2; subst e3
    exact ⟨ds,h2,h3,h4⟩
def noByte (u:Value):Prop:=∀ m:Int,u ≠ .int .u8 m
section
variable {H G J:Hp} {A:Option Addr} {n c i k:Nat} {cells:List Value}
theorem Like.rd (j2:Like G J) (h:Rd G A cells) (hn:∀ u ∈ cells,noByte u):Rd J A cells:=by
  rcases h with h | ⟨b,off,cs,E,fr,h1,h2,h3⟩
  · exact .inl h
  · obtain ⟨o',h4,h5⟩:=j2 b _ h2
    obtain ⟨ds,rfl,h6,h7⟩:=likeO_cells h5
    refine .inr ⟨b,off,ds,E,fr,h1,h4,fun j u hu => ?_⟩
    obtain ⟨v,h8,h9⟩:=h7 _ u (h3 j u hu)
    rcases h9 with rfl | ⟨m,n',_,_,rfl,_⟩
    · exact h8
    · exact absurd rfl (hn _ (List.mem_of_getElem? hu) m)
theorem rows_cells {α:Type} {d:Kd α} {xs:List α} (h:d.toKn.rows G xs cells) {p:Value → Prop} (hp:∀ x cs,d.rep G x cs → ∀ u ∈ cs,p u):∀ u ∈ cells,p u:=fun u hu => by
  obtain ⟨j,hj,rfl⟩:=List.getElem_of_mem hu
  have hlen:=h.1
  have hsz:=d.pos
  have hi:j / d.sz < xs.length:=by
    rw [Nat.div_lt_iff_lt_mul hsz]; omega
  obtain ⟨c,h1,h2⟩:=h.2 (j / d.sz) _ (List.getElem?_eq_getElem hi)
  refine hp _ _ h1 _ ?_
  have hm:j / d.sz * d.sz + j % d.sz = j:=by rw [Nat.mul_comm]; exact Nat.div_add_mod j d.sz
  have hlt:j % d.sz < d.sz:=Nat.mod_lt _ hsz
  refine List.mem_of_getElem? (i:=j % d.sz) ?_
  rw [← h2,List.getElem?_take,if_pos hlt,List.getElem?_drop,hm,List.getElem?_eq_getElem hj]
theorem lk_msgs (j2:Like G J) {xs:List (List Nat)} (sp:Sl kBsP G A n c xs) (hi:i < n):∃ x b off A' n' c',xs[i]? = some x∧A = some ⟨b,off,none⟩∧By G A' n' c' x∧PlB G A'∧∀ {w:World} {L:List Res},St J w L → At w ⟨b,off + i * 1,none⟩ [.slice A' n' c']:=by
  obtain ⟨cells,h1,h2⟩:=sp.sl
  have hx:=List.getElem?_eq_getElem (show i < xs.length by rw [sp.len]; exact hi)
  obtain ⟨cc,⟨A',n',c',rfl,hy,hp⟩,h4⟩:=h2.2 i _ hx
  have hr:=j2.rd h1 (rows_cells h2 fun x cs ⟨A,n,c,e,_⟩ u hu m => by subst e; rw [List.mem_singleton.1 hu]; intro h; cases h)
  have hne:cells ≠ []:=fun e => by rw [e] at h4; simp at h4
  obtain ⟨b,off,hA,hat⟩:=hr.at_ hne
  refine ⟨_,b,off,A',n',c',hx,hA,hy,hp,fun {w L} hs => ?_⟩
  exact (hat hs).sub (i * 1) h4
theorem lk_items (j2:Like G J) {xs:List GItem} (sp:Sl kItemP G A n c xs) (hi:i < n):∃ x b off A' n' c',xs[i]? = some x∧A = some ⟨b,off,none⟩∧By G A' n' c' x.M∧PlB G A'∧∀ {w:World} {L:List Res},St J w L → At w ⟨b,off + i * 2,none⟩ [.int .i64 x.From,.slice A' n' c']:=by
  obtain ⟨cells,h1,h2⟩:=sp.sl
  have hx:=List.getElem?_eq_getElem (show i < xs.length by rw [sp.len]; exact hi)
  obtain ⟨cc,⟨A',n',c',rfl,_,hy,hp⟩,h4⟩:=h2.2 i _ hx
  have hr:=j2.rd h1 (rows_cells h2 fun x cs ⟨A,n,c,e,_⟩ u hu m => by
    subst e
    rcases List.mem_cons.1 hu with rfl | hu
    · intro h; cases h
    · rw [List.mem_singleton.1 hu]; intro h; cases h)
  have hne:cells ≠ []:=fun e => by rw [e] at h4; simp at h4
  obtain ⟨b,off,hA,hat⟩:=hr.at_ hne
  refine ⟨_,b,off,A',n',c',hx,hA,hy,hp,fun {w L} hs => ?_⟩
  exact (hat hs).sub (i * 2) h4
theorem lk_byte (j2:Like G J) {x:List Nat} (hy:By G A n c x) (hk:k < n):∃ b off m,A = some ⟨b,off,none⟩∧m < 256∧∀ {w:World} {L:List Res},St J w L → At w ⟨b,off + k * 1,none⟩ [.int .u8 ((m:Nat):Int)]:=by
  have hkl:k < x.length:=by rw [hy.len]; exact hk
  rcases hy.rd with h | ⟨b,off,cs,E,fr,h1,h2,h3⟩
  · have:=congrArg List.length h
    simp at this
    subst this
    simp at hkl
  · obtain ⟨o',h4,h5⟩:=j2 b _ h2
    obtain ⟨ds,rfl,h6,h7⟩:=likeO_cells h5
    have hc:cs[off + k]? = some (encB x[k]):=h3 k _ (by rw [List.getElem?_map,List.getElem?_eq_getElem hkl]; rfl)
    obtain ⟨v,h8,h9⟩:=h7 _ _ hc
    have hv:∃ m:Nat,m < 256∧v = .int .u8 (m:Int):=by
      rcases h9 with h | ⟨m,n',_,h,_,e⟩
      · exact ⟨x[k],hy.lt _ (List.getElem_mem hkl),h.symm⟩
      · exact ⟨n',h,e⟩
    obtain ⟨m,hm,rfl⟩:=hv
    refine ⟨b,off,m,h1,hm,?_⟩
    rw [Nat.mul_one]
    exact (Rd.hat (H:=J) (.inr ⟨b,off + k,ds,E,fr,rfl,h4,fun j u hu => by
      cases j with
      | zero => simp at hu; subst hu; exact h8
      | succ j => simp at hu⟩))
end
def Hp.del (H:Hp) (b:Nat):Hp:={ H with blk:=fun a => if a = b then none else H.blk a }
theorem del_blk (H:Hp) (b a:Nat):(H.del b).blk a = if a = b then none else H.blk a:=rfl
theorem add_blk (H:Hp) (b a:Nat) (o:Obj):(H.add b o).blk a = if a = b then some o else H.blk a:=rfl
section
variable {H G J:Hp} {w:World} {L:List Res} {A:Option Addr} {n c k b off g:Nat} {P:Program} {N:Nat} {ρ:Nat → Value} {t ty:Nat} {x y:Operand}
theorem St.thawOne {cs:Array Value} {E:TypeId} (h:St J w L) (hb:J.blk b = some (.cells cs E (0,0))):St (J.del b) w (obj b E cs.toList::L):=by
  refine ⟨h.os,h.out,h.tape,fun a o e => ?_,fun r hr g hg => ?_,List.pairwise_cons.2 ⟨fun s hs g hg e => ?_,h.sep⟩⟩
  · rw [del_blk] at e
    split at e
    · cases e
    · exact h.fz a o e
  · rcases List.mem_cons.1 hr with rfl | hr
    · injection hg with hg
      subst hg
      exact ⟨by rw [del_blk,if_pos rfl],_,h.fz b _ hb,rfl⟩
    · obtain ⟨h1,h2⟩:=h.own r hr g hg
      refine ⟨?_,h2⟩
      rw [del_blk]
      split
      · rfl
      · exact h1
  · injection hg with hg
    subst hg
    have:=(h.own s hs b e).1
    rw [hb] at this; cases this
theorem m_storeLk {i0:TypeInfo} {m:Nat} {xs:List Nat} (hi:P.info? t = some i0) (h1:i0.size = 1) (j1:H.le J) (j2:Like G J) (dj:∀ b o,H.blk b = some o → G.blk b = none) (hy:By G A n c xs) (hp:PlB G A) (hk:k < n) (hA:A = some ⟨b,off,none⟩)
    (h:St J w L) (hx:Ev N ρ x (.pointer (some ⟨b,off + k * 1,none⟩))) (hv:Ev N ρ y (.int .u8 (m:Int))) (hm:m < 256):∃ w',Ex0 P N ρ w (.store t x y) ty w'∧∃ J',H.le J'∧Like G J'∧St J' w' L:=by
  subst hA
  have hkl:k < xs.length:=by rw [hy.len]; exact hk
  rcases hy.rd with h0 | ⟨b',off',cs,E,fr,e1,h2,h3⟩
  · have:=congrArg List.length h0
    simp at this
    subst this
    simp at hkl
  · injection e1 with e1
    injection e1 with ea eb
    subst ea; subst eb
    obtain ⟨cs2,E2,h2'⟩:=hp _ rfl
    rw [show (⟨b,off,none⟩:Addr).block = b from rfl,h2] at h2'
    injection h2' with h2'
    injection h2' with _ _ efr
    subst efr
    obtain ⟨o',h4,h5⟩:=j2 b _ h2
    obtain ⟨ds,rfl,h6,h7⟩:=likeO_cells h5
    have hc:cs[off + k]? = some (encB xs[k]):=h3 k _ (by rw [List.getElem?_map,List.getElem?_eq_getElem hkl]; rfl)
    have hlt:off + k < ds.size:=by
      have:=(Array.getElem?_eq_some_iff.1 hc).1
      omega
    have hth:=h.thawOne h4
    obtain ⟨w',hex,hs⟩:=m_store (P:=P) (N:=N) (ρ:=ρ) (ty:=ty) (i:=off + k * 1) (v:=.int .u8 (m:Int)) (cs':=splice ds.toList (off + k * 1) [.int .u8 (m:Int)]) hi hth hx hv (by rw [h1]; rfl) (by rw [h1,Array.length_toList]; omega) one1 rfl
    refine ⟨w',hex,?_⟩
    obtain ⟨o2,rfl,hn,hs2⟩:=hs.freeze (g:=b) rfl
    have hbH:H.blk b = none:=by
      cases hb:H.blk b with
      | none => rfl
      | some o => have:=dj b o hb; rw [h2] at this; cases this
    refine ⟨(J.del b).add b _,⟨fun a o e => ?_,j1.os,j1.out,j1.tape⟩,fun a o e => ?_,hs2⟩
    · have hne:a ≠ b:=fun e2 => by subst e2; rw [hbH] at e; cases e
      rw [add_blk,del_blk,if_neg hne,if_neg hne]
      exact j1.blk a o e
    · by_cases hne:a = b
      · subst hne
        rw [h2] at e
        injection e with e
        subst e
        refine ⟨_,Hp.add_at _ a _,.inr ⟨cs,_,E,(0,0),rfl,rfl,?_,fun i u hu => ?_⟩⟩
        · have e2:(splice ds.toList (off + k * 1) [.int .u8 (m:Int)]).length = ds.toList.length:=splice_length (by rw [Array.length_toList]; show off + k * 1 + 1 ≤ ds.size; omega)
          rw [Array.length_toList] at e2
          exact h6.trans e2.symm
        · rw [List.getElem?_toArray,splice_get (by rw [Array.length_toList]; show off + k * 1 + 1 ≤ ds.size; omega)]
          by_cases hi2:off + k * 1 ≤ i∧i < off + k * 1 + [Value.int .u8 (m:Int)].length
          · rw [if_pos hi2]
            have hi3:i < off + k * 1 + 1:=hi2.2
            have e3:i = off + k:=by omega
            subst e3
            rw [hc] at hu
            injection hu with hu
            refine ⟨.int .u8 (m:Int),by rw [show off + k - (off + k * 1) = 0 by omega]; rfl,.inr ⟨xs[k],m,hy.lt _ (List.getElem_mem hkl),hm,?_,rfl⟩⟩
            rw [← hu]; rfl
          · rw [if_neg hi2]
            obtain ⟨v,h8,h9⟩:=h7 i u hu
            exact ⟨v,by simpa using h8,h9⟩
      · obtain ⟨o',h8,h9⟩:=j2 a o e
        refine ⟨o',?_,h9⟩
        rw [add_blk,del_blk,if_neg hne,if_neg hne]
        exact h8
end
end Go.FM
namespace Go.FM
section
variable {H:Hp} {w:World} {L:List Res} {q:Res}
theorem St.headQ (rs:List Res) (h:St H w (rs ++ (q::L))):St H w (q::(rs ++ L)):=h.perm List.perm_middle
theorem St.backQ (rs:List Res) (h:St H w (q::(rs ++ L))):St H w (rs ++ (q::L)):=h.perm List.perm_middle.symm
end
end Go.FM

set_option linter.unusedVariables false
set_option linter.unusedSimpArgs false
namespace Go.FM
open Go
section
variable {P:Program} {Q:Exit → Act → World → Prop} {N:Nat} {ρ:Nat → Value} {H:Hp} {w w':World} {L:List Res} {t ty e e' size bytes n m c g cap o k:Nat} {v:Value} {xs news:List Value} {x y:Operand} {z:Value} {ops:Array Oper} {rest:List Oper} {pos:String} {aft:Array Edge}
end
end Go.FM
namespace Go.FM
open Go
section
variable {α:Type} {d:Kd α} {H:Hp} {w:World} {L:List Res} {e n g cap:Nat} {cs:List Value} {xs:List α}
end
end Go.FM
namespace Go.FM
end Go.FM
namespace Go.FM
end Go.FM

set_option linter.unusedVariables false
set_option linter.unusedSimpArgs false
namespace Go.FM
open Go
structure Pk where
  From:Int
  To:Int
  v:Value
  bs:List Nat
def kPk:Kd Pk where
  sz:=3
  pos:=by decide
  rep _ p cs:=cs = [.int .i64 p.From,.int .i64 p.To,p.v]∧IB p.From∧IB p.To∧RowOk 1 p.v p.bs.length (p.bs.map encB)∧Small p.bs∧p.bs.length ≤ 140737488351232
  len h:=by rw [h.1]; rfl
  one h:=by
    obtain ⟨rfl,_,_,hok,_⟩:=h
    obtain ⟨A,c,hv,_⟩:=hok.slice
    simp [Value.oneCell',hv]
  mono _ h:=h
  bts:=40
  bts0:=by decide
structure NetS where
  n:Int
  hr:List Nat
  ps:List Pk
  bi:List Int
  lost:Int
structure NetOk (H:Hp) (s:NetS) (vb:Value) (cb:List Value) (vt:Value) (ct:List Value):Prop where
  n1:1 ≤ s.n
  n16:s.n ≤ 16
  hl:s.hr.length = 16
  hb:∀ x ∈ s.hr,x < 65536
  okb:RowOk 3 vb s.ps.length cb
  hkb:kPk.toKn.rows H s.ps cb
  okt:RowOk 1 vt s.bi.length ct
  hkt:kI.toKn.rows H s.bi ct
  len:s.bi.length = s.ps.length
  max:s.ps.length ≤ 4096
  l0:0 ≤ s.lost
theorem NetOk.mono {H H':Hp} {s:NetS} {vb:Value} {cb:List Value} {vt:Value} {ct:List Value} (h:NetOk H s vb cb vt ct) (hl:H.le H'):NetOk H' s vb cb vt ct :=
  ⟨h.n1,h.n16,h.hl,h.hb,h.okb,Kn.rows_mono h.hkb hl,h.okt,Kn.rows_mono h.hkt hl,h.len,h.max,h.l0⟩
section
variable {n lost:Int} {vb vt:Value} {hr:List Nat} {i x:Nat}
end
section
variable {TN TP TI TB g g':Nat} {s s':NetS} {vb vt vb' vt':Value} {cb ct cb' ct':List Value} {L M:List Res} {H:Hp} {w:World}
end
end Go.FM
namespace Go.FM
theorem set_hb {l:List Nat} {i x:Nat} (h:∀ y ∈ l,y < 65536) (hx:x < 65536):∀ y ∈ l.set i x,y < 65536:=fun y hy => by
  rcases List.mem_or_eq_of_mem_set hy with h1 | h1
  · exact h y h1
  · rw [h1]; exact hx
def NetS.isIn (s:NetS) (i:Int):Bool:=decide (0 ≤ i∧i < s.n)
def NetS.hears (s:NetS) (a b:Int):Bool:=s.isIn a && has (s.hr.getD a.toNat 0) b
def NetS.setE (s:NetS) (a b:Int):Bool:=s.isIn a && s.isIn b && decide (a ≠ b)
def NetS.setH (f:Nat → Int → Nat) (s:NetS) (a b:Int):NetS:=if s.setE a b = true then NetS.mk s.n ((s.hr.set a.toNat (f (s.hr.getD a.toNat 0) b)).set b.toNat (f (s.hr.getD b.toNat 0) a)) s.ps s.bi s.lost else s
def netNew (n:Int):NetS:=NetS.mk n (List.replicate n.toNat (2 ^ n.toNat - 1) ++ List.replicate (16 - n.toNat) 0) [] [] 0
theorem isIn_t {s:NetS} {i:Int} (h:s.isIn i = true):0 ≤ i∧i < s.n:=of_decide_eq_true h
theorem setE_t {s:NetS} {a b:Int} (h1:s.isIn a = true) (h2:s.isIn b = true) (h3:¬ a = b):s.setE a b = true:=by
  unfold NetS.setE; rw [h1,h2]; simp [h3]
theorem new_hb {m i k:Nat} (hm:m < 65536):∀ y ∈ List.replicate i m ++ List.replicate k 0,y < 65536:=fun y hy => by
  rcases List.mem_append.1 hy with h | h
  · rw [List.eq_of_mem_replicate h]; exact hm
  · rw [List.eq_of_mem_replicate h]; decide
theorem mask16 {k:Nat} (h:k ≤ 16):2 ^ k - 1 < 65536:=by
  have:2 ^ k ≤ 2 ^ 16:=Nat.pow_le_pow_right (by decide) h
  omega
theorem netNew_len {n:Int} (h1:1 ≤ n) (h2:n ≤ 16):(netNew n).hr.length = 16:=by simp [netNew]; omega
theorem netNew_hb {n:Int} (h2:n ≤ 16):∀ x ∈ (netNew n).hr,x < 65536:=new_hb (mask16 (by omega))
end Go.FM
namespace Go.FM
theorem getD_hb {l:List Nat} (h:∀ y ∈ l,y < 65536) (i:Nat):l.getD i 0 < 65536:=by
  rw [List.getD_eq_getElem?_getD]
  cases e:l[i]? with
  | none => simp
  | some x => simpa using h x (List.mem_of_getElem? e)
end Go.FM
namespace Go.FM
open Go
section
variable {TN TP TI TB g:Nat} {s:NetS} {vb vt:Value} {cb ct:List Value} {L:List Res} {H:Hp} {w:World}
end
end Go.FM

set_option linter.unusedVariables false
set_option linter.unusedSimpArgs false
namespace Go.FM
open Go
section
variable {P:Program} {N:Nat} {ρ:Nat → Value} {w:World} {H:Hp} {L:List Res} {t e ty g n c:Nat} {x y:Operand} {A:Option Addr} {bs:List Nat}
end
def NetS.putE (s:NetS) (a b:Int):Int:=if s.isIn a = true∧s.isIn b = true then (if 4096 ≤ s.ps.length then 7 else 0) else 1
def NetS.putS (s:NetS) (a b:Int) (bs:List Nat) (k:Int) (v:Value):NetS :=
  if s.isIn a = true∧s.isIn b = true then (if 4096 ≤ s.ps.length then NetS.mk s.n s.hr s.ps s.bi (s.lost + 1) else NetS.mk s.n s.hr (s.ps ++ [⟨a,b,v,bs⟩]) (s.bi ++ [k]) s.lost) else s
section
variable {s:NetS} {a b k:Int} {bs:List Nat} {v:Value}
theorem putE_ok (h1:s.isIn a = true) (h2:s.isIn b = true) (h:¬ 4096 ≤ s.ps.length):s.putE a b = 0:=by unfold NetS.putE; rw [if_pos ⟨h1,h2⟩,if_neg h]
theorem putS_ok (h1:s.isIn a = true) (h2:s.isIn b = true) (h:¬ 4096 ≤ s.ps.length):NetS.mk s.n s.hr (s.ps ++ [⟨a,b,v,bs⟩]) (s.bi ++ [k]) s.lost = s.putS a b bs k v:=by unfold NetS.putS; rw [if_pos ⟨h1,h2⟩,if_neg h]
end
end Go.FM
namespace Go.FM
open Go
section
variable {s:NetS} {a b i j k:Int} {bs:List Nat} {v:Value}
end
end Go.FM
namespace Go.FM
theorem setH_n (f:Nat → Int → Nat) (s:NetS) (a b:Int):(NetS.setH f s a b).n = s.n:=by unfold NetS.setH; split <;> rfl
end Go.FM
namespace Go.FM
end Go.FM

set_option linter.unusedVariables false
set_option linter.unusedSimpArgs false
namespace Go.FM
open Go
section
variable {P:Program} {N:Nat} {ρ:Nat → Value} {H:Hp} {w w':World} {L:List Res} {t ty e e' size bytes n m c g cap i:Nat} {v:Value} {xs news:List Value} {x y:Operand} {z:Value}
end
end Go.FM
namespace Go.FM
open Go
section
variable {P:Program} {N:Nat} {ρ:Nat → Value} {H:Hp} {w w':World} {L:List Res} {t ty e e2 n c:Nat} {v u:Value} {x y:Operand} {l bs:List Nat} {TB:Nat}
theorem m_appRowB (hu:P.underlying t = some (.slice e)) (hi:Inf P e (.int .u8 0) 1 1) (h:St H w (row e 1 v n (l.map encB)::L)) (ok:RowOk 1 v n (l.map encB)) (hx:Ev N ρ x v) (i:Nat) (hL:(row e 1 v n (l.map encB)::L)[i]? = some (row e2 1 u bs.length (bs.map encB))) (ok2:RowOk 1 u bs.length (bs.map encB))
    (hy:Ev N ρ y u) (hm:n + bs.length ≤ 140737488355328) :
    ∃ v' w',Ex P N ρ w (.call { callee:=.builtin .append,args:=#[x,y],argTypes:=#[t,t] }) ty v' w'∧RowOk 1 v' (n + bs.length) ((l ++ bs).map encB)∧St H w' (row e 1 v' (n + bs.length) ((l ++ bs).map encB)::L):=by
  rcases h.rowAll i hL ok2 with h1 | ⟨a,⟨c',rfl⟩,hat⟩
  · have h2:bs = []:=by simpa using h1
    subst h2
    obtain ⟨A,c',rfl,_⟩:=ok2.slice
    obtain ⟨i0,e1,_⟩:=hi
    exact ⟨v,w,m_append0 hu e1 h ok hx hy,by simpa using ok,by simpa using h⟩
  · rw [List.map_append]
    exact m_app hu hi rfl (by decide) h ok hx hy (by simp) hat (one_encB bs) (by omega) (by decide)
end
def NetS.peekP (s:NetS) (i:Int):GPacket:=if 0 ≤ i then (match s.ps[i.toNat]? with | some p => ⟨p.From,p.To,p.bs⟩ | none => ⟨0,0,[]⟩) else ⟨0,0,[]⟩
def NetS.outS (s:NetS) (m:Nat):NetS:=NetS.mk s.n s.hr (s.ps.eraseIdx m) (s.bi.eraseIdx m) s.lost
theorem peek_at {s:NetS} {i:Int} {p:Pk} (h0:0 ≤ i) (h:s.ps[i.toNat]? = some p):s.peekP i = ⟨p.From,p.To,p.bs⟩:=by
  unfold NetS.peekP
  rw [if_pos h0,h]
end Go.FM
namespace Go.FM
end Go.FM
namespace Go.FM
def NetS.lose (s:NetS):NetS:=NetS.mk s.n s.hr s.ps s.bi (s.lost + 1)
def NetS.takeE (s:NetS) (i:Int):Int:=if 0 ≤ i∧i < s.ps.length then (if s.hears (s.peekP i).From (s.peekP i).To = true then 0 else 10) else 1
def NetS.takeP (s:NetS) (i:Int):GPacket:=if (0 ≤ i∧i < s.ps.length)∧s.hears (s.peekP i).From (s.peekP i).To = true then s.peekP i else ⟨0,0,[]⟩
def NetS.takeS (s:NetS) (i:Int):NetS:=if 0 ≤ i∧i < s.ps.length then (if s.hears (s.peekP i).From (s.peekP i).To = true then s.outS i.toNat else (s.outS i.toNat).lose) else s
section
variable {s:NetS} {i:Int}
theorem take_yes (h:0 ≤ i∧i < s.ps.length) (hh:s.hears (s.peekP i).From (s.peekP i).To = true):s.takeE i = 0∧s.takeP i = s.peekP i∧s.outS i.toNat = s.takeS i :=
  ⟨by unfold NetS.takeE; rw [if_pos h,if_pos hh],if_pos ⟨h,hh⟩,by unfold NetS.takeS; rw [if_pos h,if_pos hh]⟩
end
end Go.FM

set_option linter.unusedVariables false
set_option linter.unusedSimpArgs false
namespace Go.FM
theorem has_bit {s:Nat} {j:Int} (h0:0 ≤ j) (h1:j < 16):has s j = true ↔ s / 2 ^ j.toNat % 2 = 1:=by
  unfold has; rw [decide_eq_true_iff]; exact ⟨fun h => h.2.2,fun h => ⟨h0,h1,h⟩⟩
theorem has_wth {s:Nat} {i j:Int} (hi:0 ≤ i) (hi2:i < 16) (h0:0 ≤ j) (h1:j < 16):has (wth s i) j = (has s j || decide (j = i)):=by
  obtain ⟨z,rfl⟩:=Int.eq_ofNat_of_zero_le hi
  rw [Bool.eq_iff_iff,has_bit h0 h1,wth_bit (by omega),Bool.or_eq_true,has_bit h0 h1,decide_eq_true_iff]
  constructor
  · rintro (h | h)
    · exact .inl h
    · exact .inr (by omega)
  · rintro (h | h)
    · exact .inl h
    · exact .inr (by omega)
theorem has_all {k:Nat} {j:Int} (hk:k ≤ 16) (h0:0 ≤ j) (h1:j < k):has (2 ^ k - 1) j = true:=by
  rw [has_bit h0 (by omega)]
  obtain ⟨m,rfl⟩:=Int.eq_ofNat_of_zero_le h0
  have hm:m < k:=by omega
  have:=Nat.testBit_two_pow_sub_one k m
  rw [Nat.testBit,Nat.shiftRight_eq_div_pow] at this
  simp [hm] at this
  simpa using this
theorem getD_set (l:List Nat) (i j x:Nat):(l.set i x).getD j 0 = if i = j∧i < l.length then x else l.getD j 0:=by
  rw [List.getD_eq_getElem?_getD,List.getD_eq_getElem?_getD,List.getElem?_set]
  by_cases h:i = j
  · subst h
    by_cases h2:i < l.length
    · simp [h2]
    · simp [h2]
  · simp [h]
section
variable {s:NetS} {a b x y:Int}
theorem setH_get (f:Nat → Int → Nat) (hl:s.hr.length = 16) (hn:s.n ≤ 16) (he:s.setE a b = true) (hx:s.isIn x = true):(NetS.setH f s a b).hr.getD x.toNat 0 = if x = b then f (s.hr.getD b.toNat 0) a else if x = a then f (s.hr.getD a.toNat 0) b else s.hr.getD x.toNat 0:=by
  have h1:=isIn_t hx
  unfold NetS.setE at he
  simp only [Bool.and_eq_true,decide_eq_true_eq] at he
  obtain ⟨⟨ha,hb⟩,hab⟩:=he
  have ha:=isIn_t ha
  have hb:=isIn_t hb
  have he:s.setE a b = true:=setE_t (decide_eq_true ha) (decide_eq_true hb) hab
  unfold NetS.setH
  rw [if_pos he]
  simp only []
  rw [getD_set,getD_set,List.length_set,hl]
  by_cases hxb:x = b
  · rw [if_pos ⟨by omega,by omega⟩,if_pos hxb]
  · rw [if_neg (by omega),if_neg hxb]
    by_cases hxa:x = a
    · rw [if_pos ⟨by omega,by omega⟩,if_pos hxa]
    · rw [if_neg (by omega),if_neg hxa]
theorem setH_len (f:Nat → Int → Nat) (h:s.hr.length = 16):(NetS.setH f s a b).hr.length = 16:=by
  unfold NetS.setH; split
  · simp [h]
  · exact h
theorem setH_isIn (f:Nat → Int → Nat):(NetS.setH f s a b).isIn x = s.isIn x:=by unfold NetS.isIn; rw [setH_n]
theorem hears_join (hl:s.hr.length = 16) (hb:∀ z ∈ s.hr,z < 65536) (hn:s.n ≤ 16) (hx:s.isIn x = true) (hy:s.isIn y = true) :
    (NetS.setH wth s a b).hears x y = (s.hears x y || (s.setE a b && (decide (x = a∧y = b) || decide (x = b∧y = a)))):=by
  cases he:s.setE a b with
  | false =>
    have:NetS.setH wth s a b = s:=if_neg (by rw [he]; decide)
    rw [this]; simp
  | true =>
    have h1:=isIn_t hx
    have h2:=isIn_t hy
    have he':=he
    unfold NetS.setE at he'
    simp only [Bool.and_eq_true,decide_eq_true_eq] at he'
    obtain ⟨⟨ha,hb'⟩,hab⟩:=he'
    have ha:=isIn_t ha
    have hb':=isIn_t hb'
    unfold NetS.hears
    rw [setH_isIn,hx,setH_get wth hl hn he hx]
    simp only [Bool.true_and]
    by_cases hxb:x = b
    · subst hxb
      rw [if_pos rfl,has_wth (by omega) (by omega) (by omega) (by omega)]
      have:¬ x = a:=fun h => hab h.symm
      simp [this]
    · rw [if_neg hxb]
      by_cases hxa:x = a
      · subst hxa
        rw [if_pos rfl,has_wth (by omega) (by omega) (by omega) (by omega)]
        simp [hxb]
      · rw [if_neg hxa]; simp [hxa,hxb]
theorem setH_hb {f:Nat → Int → Nat} (hf:∀ (x:Nat) (y:Int),x < 65536 → f x y < 65536) (hb:∀ z ∈ s.hr,z < 65536):∀ z ∈ (NetS.setH f s a b).hr,z < 65536:=by
  unfold NetS.setH; split
  · exact set_hb (set_hb hb (hf _ _ (getD_hb hb _))) (hf _ _ (getD_hb hb _))
  · exact hb
theorem hears_new {n:Int} (h1:1 ≤ n) (h2:n ≤ 16) (hx:0 ≤ x∧x < n) (hy:0 ≤ y∧y < n):(netNew n).hears x y = true:=by
  unfold NetS.hears
  rw [show (netNew n).isIn x = true from decide_eq_true hx,Bool.true_and]
  have:(netNew n).hr.getD x.toNat 0 = 2 ^ n.toNat - 1:=by
    show (List.replicate n.toNat (2 ^ n.toNat - 1) ++ List.replicate (16 - n.toNat) 0).getD x.toNat 0 = _
    rw [List.getD_eq_getElem?_getD,List.getElem?_append_left (by simp; omega),List.getElem?_replicate,if_pos (by omega)]
    rfl
  rw [this]
  exact has_all (by omega) hy.1 (by omega)
end
end Go.FM

set_option linter.unusedVariables false
set_option linter.unusedSimpArgs false
namespace Go.FM
structure CutsAt (s:NetS) (K:Int) (ps:List Pk) (l:Int) (deaf:Bool):Prop where
  n:s.n = K
  k2:2 ≤ K
  k16:K ≤ 16
  hl:s.hr.length = 16
  hb:∀ z ∈ s.hr,z < 65536
  ps:s.ps = ps
  lost:s.lost = l
  far:s.hears (K - 1) 0 = !deaf
  near:s.hears 0 0 = true
section
variable {s:NetS} {K l a b k:Int} {ps:List Pk} {d:Bool} {v:Value} {bs:List Nat}
theorem CutsAt.inn (h:CutsAt s K ps l d) (h0:0 ≤ a) (h1:a < K):s.isIn a = true:=decide_eq_true ⟨h0,by rw [h.n]; exact h1⟩
theorem CutsAt.new (h2:2 ≤ K) (h16:K ≤ 16):CutsAt (netNew K) K [] 0 false :=
  ⟨rfl,h2,h16,netNew_len (by omega) h16,netNew_hb h16,rfl,rfl,hears_new (by omega) h16 (by omega) (by omega),hears_new (by omega) h16 (by omega) (by omega)⟩
theorem CutsAt.putE (h:CutsAt s K ps l d) (ha:0 ≤ a∧a < K) (hb:0 ≤ b∧b < K) (hp:ps.length < 4096):s.putE a b = 0 :=
  putE_ok (h.inn ha.1 ha.2) (h.inn hb.1 hb.2) (by rw [h.ps]; omega)
theorem CutsAt.put (h:CutsAt s K ps l d) (ha:0 ≤ a∧a < K) (hb:0 ≤ b∧b < K) (hp:ps.length < 4096):CutsAt (s.putS a b bs k v) K (ps ++ [⟨a,b,v,bs⟩]) l d:=by
  rw [← putS_ok (h.inn ha.1 ha.2) (h.inn hb.1 hb.2) (by rw [h.ps]; omega)]
  exact ⟨h.n,h.k2,h.k16,h.hl,h.hb,by show s.ps ++ _ = _; rw [h.ps],h.lost,h.far,h.near⟩
theorem CutsAt.setE2 (h:CutsAt s K ps l d):s.setE (K - 1) 0 = true:=setE_t (h.inn (by have:=h.k2; omega) (by omega)) (h.inn (by decide) (by have:=h.k2; omega)) (by have:=h.k2; omega)
theorem CutsAt.set {f:Nat → Int → Nat} (h:CutsAt s K ps l d) {d':Bool} (hf:∀ (x:Nat) (y:Int),x < 65536 → f x y < 65536) (h1:(NetS.setH f s a b).hears (K - 1) 0 = !d') (h2:(NetS.setH f s a b).hears 0 0 = true):CutsAt (NetS.setH f s a b) K ps l d' :=
  ⟨by rw [setH_n]; exact h.n,h.k2,h.k16,setH_len f h.hl,setH_hb hf h.hb,by unfold NetS.setH; split <;> exact h.ps,by unfold NetS.setH; split <;> exact h.lost,h1,h2⟩
theorem CutsAt.join (h:CutsAt s K ps l d):CutsAt (NetS.setH wth s (K - 1) 0) K ps l false:=by
  have h2:=h.k2
  refine h.set (fun x y hx => wth_lt hx y) ?_ ?_
  · rw [hears_join h.hl h.hb (by rw [h.n]; exact h.k16) (h.inn (by omega) (by omega)) (h.inn (by decide) (by omega)),h.setE2]; simp
  · rw [hears_join h.hl h.hb (by rw [h.n]; exact h.k16) (h.inn (by decide) (by omega)) (h.inn (by decide) (by omega)),h.near]; rfl
theorem CutsAt.peek {q:Pk} {rest:List Pk} (h:CutsAt s K (q::rest) l d):s.peekP 0 = ⟨q.From,q.To,q.bs⟩:=peek_at (by decide) (by rw [h.ps]; rfl)
theorem CutsAt.take {q:Pk} {rest:List Pk} (h:CutsAt s K (q::rest) l d) (hh:s.hears q.From q.To = true):s.takeE 0 = 0∧s.takeP 0 = ⟨q.From,q.To,q.bs⟩∧CutsAt (s.takeS 0) K rest l d:=by
  have h0:(0:Int) ≤ 0∧(0:Int) < s.ps.length:=by rw [h.ps]; simp
  have:=take_yes h0 (by rw [h.peek]; exact hh)
  refine ⟨this.1,by rw [this.2.1,h.peek],?_⟩
  rw [← this.2.2]
  exact ⟨h.n,h.k2,h.k16,h.hl,h.hb,by show s.ps.eraseIdx 0 = rest; rw [h.ps]; rfl,h.lost,h.far,h.near⟩
end
end Go.FM

set_option linter.unusedVariables false
set_option linter.unusedSimpArgs false
namespace Go.FM
open Go
theorem kPk_any {H H':Hp} {xs:List Pk} {cs:List Value} (h:kPk.toKn.rows H xs cs):kPk.toKn.rows H' xs cs:=h
theorem kI_any {H H':Hp} {xs:List Int} {cs:List Value} (h:kI.toKn.rows H xs cs):kI.toKn.rows H' xs cs:=h
end Go.FM
namespace Go.FM
def NetS.turnOk (s:NetS) (i k:Int):Prop:=(0 ≤ i∧i < s.ps.length)∧(0 ≤ k∧k < 8 * ((s.peekP i).Bytes.length:Int))
instance (s:NetS) (i k:Int):Decidable (s.turnOk i k):=by unfold NetS.turnOk; exact inferInstance
section
variable {s:NetS} {i k:Int} {p:Pk}
end
end Go.FM

set_option linter.unusedVariables false
set_option linter.unusedSimpArgs false
namespace Go.FM
open Go
structure TurnsAt (s:NetS) (want:List Nat) (k:Int) (m:Nat):Prop where
  n:s.n = 2
  len:s.ps.length = m + 1
  bl:s.bi.length = m + 1
  last:∃ v,s.ps[m]? = some ⟨0,1,v,want⟩
  bit:s.bi.getD m 0 = k
  lost:s.lost = 0
section
variable {s:NetS} {want:List Nat} {k i:Int} {m j:Nat}
theorem TurnsAt.inn (h:TurnsAt s want k m) (hi:i = (m:Int)):0 ≤ i∧i < s.ps.length:=by have:=h.len; omega
theorem TurnsAt.peek (h:TurnsAt s want k m) (hi:i = (m:Int)):s.peekP i = ⟨0,1,want⟩:=by
  obtain ⟨v,hv⟩:=h.last
  exact peek_at (p:=⟨0,1,v,want⟩) (by omega) (by rw [hi,Int.toNat_natCast]; exact hv)
theorem TurnsAt.ok (h:TurnsAt s want k m) (hi:i = (m:Int)) (hj:j < 8 * want.length):s.turnOk i (j:Int):=⟨h.inn hi,by rw [h.peek hi]; show (0:Int) ≤ (j:Int)∧(j:Int) < 8 * (want.length:Int); omega⟩
theorem TurnsAt.new (p:List Nat) (v:Value):(netNew 2).putE 0 1 = 0∧TurnsAt ((netNew 2).putS 0 1 p 0 v) p 0 0:=by
  have hin:∀ z:Int,0 ≤ z → z < 2 → (netNew 2).isIn z = true:=fun z h0 h1 => decide_eq_true ⟨h0,h1⟩
  refine ⟨putE_ok (hin 0 (by decide) (by decide)) (hin 1 (by decide) (by decide)) (by decide),?_⟩
  rw [← putS_ok (hin 0 (by decide) (by decide)) (hin 1 (by decide) (by decide)) (by decide)]
  exact ⟨rfl,rfl,rfl,⟨v,rfl⟩,rfl,rfl⟩
end
structure FullAt (s:NetS) (p:List Nat) (m:Nat) (l:Int):Prop where
  n:s.n = 2
  hr:s.hr = (netNew 2).hr
  len:s.ps.length = m
  bl:s.bi.length = m
  all:∀ q ∈ s.ps,q.From = 1∧q.To = 0∧q.bs = p
  lost:s.lost = l
section
variable {s:NetS} {p:List Nat} {m:Nat} {l i:Int}
theorem FullAt.new (p:List Nat):FullAt (netNew 2) p 0 0:=⟨rfl,rfl,rfl,rfl,fun q hq => absurd hq List.not_mem_nil,rfl⟩
theorem FullAt.inn (h:FullAt s p m l) (h0:0 ≤ i) (h1:i < 2):s.isIn i = true:=decide_eq_true ⟨h0,by rw [h.n]; exact h1⟩
theorem FullAt.putE (h:FullAt s p m l) (hm:m < 4096):s.putE 1 0 = 0:=putE_ok (h.inn (by decide) (by decide)) (h.inn (by decide) (by decide)) (by rw [h.len]; omega)
theorem FullAt.put (h:FullAt s p m l) (hm:m < 4096) (k:Int) (v:Value):FullAt (s.putS 1 0 p k v) p (m + 1) l:=by
  rw [← putS_ok (h.inn (by decide) (by decide)) (h.inn (by decide) (by decide)) (by rw [h.len]; omega)]
  refine ⟨h.n,h.hr,by simp [h.len],by simp [h.bl],fun q hq => ?_,h.lost⟩
  rcases List.mem_append.1 hq with hq | hq
  · exact h.all q hq
  · rw [List.mem_singleton.1 hq]; exact ⟨rfl,rfl,rfl⟩
theorem FullAt.at_ (h:FullAt s p m l) (h0:0 ≤ i) (h1:i < m):(0 ≤ i∧i < s.ps.length)∧s.peekP i = ⟨1,0,p⟩:=by
  have hlt:i.toNat < s.ps.length:=by rw [h.len]; omega
  have hq:=h.all _ (List.getElem_mem hlt)
  refine ⟨by rw [h.len]; omega,?_⟩
  rw [peek_at h0 (List.getElem?_eq_getElem hlt),hq.1,hq.2.1,hq.2.2]
theorem FullAt.hears (h:FullAt s p m l):s.hears 1 0 = true:=by
  have:s.hears 1 0 = (netNew 2).hears 1 0:=by unfold NetS.hears NetS.isIn; rw [h.n,h.hr]; rfl
  rw [this]; exact hears_new (by decide) (by decide) (by decide) (by decide)
theorem FullAt.take (h:FullAt s p (m + 1) l) (h0:0 ≤ i) (h1:i < ((m + 1:Nat):Int)):s.takeE i = 0∧s.takeP i = ⟨1,0,p⟩∧FullAt (s.takeS i) p m l:=by
  obtain ⟨hin,hp⟩:=h.at_ h0 h1
  have ht:=take_yes hin (by rw [hp]; exact h.hears)
  refine ⟨ht.1,by rw [ht.2.1,hp],?_⟩
  rw [← ht.2.2]
  refine ⟨h.n,h.hr,?_,?_,fun q hq => h.all q (List.mem_of_mem_eraseIdx hq),h.lost⟩
  · show (s.ps.eraseIdx i.toNat).length = m
    rw [List.length_eraseIdx_of_lt (by rw [h.len]; omega),h.len]; omega
  · show (s.bi.eraseIdx i.toNat).length = m
    rw [List.length_eraseIdx_of_lt (by rw [h.bl]; omega),h.bl]; omega
end
end Go.FM

set_option linter.unusedVariables false
set_option linter.unusedSimpArgs false
namespace Go.FM
open Go
section
variable {H:Hp} {w w':World} {L L':List Res} {e size n:Nat} {v:Value} {xs:List Value}
theorem St.lendRow (h:St H w (row e size v n xs::L)) (ok:RowOk size v n xs):∃ H' A c,H.le H'∧St H' w L∧v = .slice A n c∧n ≤ c∧c ≤ maxLen∧Rd H' A xs∧∀ {w' L'},St H' w' L' → St H w' (row e size v n xs::L'):=by
  rcases ok.2.2 with ⟨rfl,rfl⟩ | ⟨g,cap,rfl,hc⟩
  · have hx:xs = []:=List.eq_nil_of_length_eq_zero (by simpa using ok.1)
    subst hx
    exact ⟨H,none,0,Hp.le.refl H,h.drop,rfl,Nat.le_refl _,Nat.zero_le _,.inl rfl,fun h' => h'.rowNil e size⟩
  · obtain ⟨o,ho,h1,h2⟩:=h.freeze (g:=g) rfl
    have ho':=ho
    obtain ⟨g',cap',cur,e1,rfl,_,hcm,_,h4⟩:=ho
    have hcm':cap ≤ maxLen:=by injection e1 with _ _ e1; omega
    refine ⟨_,_,cap,H.le_add g _ h1,h2,rfl,hc,hcm',.inr ⟨g,0,cur,e,(0,0),rfl,Hp.add_at H g _,fun j u hu => ?_⟩,fun {w' L'} h' => ?_⟩
    · rw [← h4,List.getElem?_take] at hu
      split at hu
      · simpa using hu
      · cases hu
    · have h3:=St.weaken (H.le_add g _ h1) h'
      refine ⟨h3.os,h3.out,h3.tape,h3.fz,fun r hr g2 hk => ?_,List.pairwise_cons.2 ⟨fun s hs g2 hk hk2 => ?_,h3.sep⟩⟩
      · rcases List.mem_cons.1 hr with rfl | hr
        · have hk:some g = some g2:=hk
          injection hk with hk
          subst hk
          exact ⟨h1,_,h'.fz g _ (Hp.add_at H g _),ho'⟩
        · exact h3.own r hr g2 hk
      · have hk:some g = some g2:=hk
        injection hk with hk
        subst hk
        have:=(h'.own s hs g hk2).1
        rw [Hp.add_at] at this
        cases this
theorem St.lendBs {bs:List Nat} (h:St H w (row e 1 v n (bs.map encB)::L)) (ok:RowOk 1 v n (bs.map encB)) (hs:Small bs) (hn:n ≤ 140737488351232):∃ H' A c,H.le H'∧St H' w L∧v = .slice A n c∧By H' A n c bs∧∀ {w' L'},St H' w' L' → St H w' (row e 1 v n (bs.map encB)::L'):=by
  obtain ⟨H',A,c,h1,h2,h3,h4,h4',h5,h6⟩:=h.lendRow ok
  have hl:bs.length = n:=by have:=ok.1; simpa using this
  refine ⟨H',A,c,h1,h2,h3,⟨⟨h5,hl,h4,h4',hs⟩,hn⟩,h6⟩
theorem St.lendBsC {A:Option Addr} {c:Nat} {bs:List Nat} (h:St H w (row e 1 (.slice A n c) n (bs.map encB)::L)) (ok:RowOk 1 (.slice A n c) n (bs.map encB)) (hs:Small bs) (hn:n ≤ 140737488351232):∃ H',H.le H'∧St H' w L∧By H' A n c bs∧∀ {w' L'},St H' w' L' → St H w' (row e 1 (.slice A n c) n (bs.map encB)::L'):=by
  obtain ⟨H',A',c',h1,h2,h3,h4,h5⟩:=h.lendBs ok hs hn
  injection h3 with e1 e2 e3
  subst e1 e3
  exact ⟨H',h1,h2,h4,h5⟩
theorem NetOk.any {H H':Hp} {s:NetS} {vb:Value} {cb:List Value} {vt:Value} {ct:List Value} (h:NetOk H s vb cb vt ct):NetOk H' s vb cb vt ct :=
  ⟨h.n1,h.n16,h.hl,h.hb,h.okb,kPk_any h.hkb,h.okt,kI_any h.hkt,h.len,h.max,h.l0⟩
end
def enP (q:Pk):Int × Int × List Nat:=(q.From,q.To,q.bs)
def en01 (b:List Nat):Int × Int × List Nat:=(0,1,b)
structure TwoAt (s:NetS) (l:List (List Nat)) (k:List Int):Prop where
  n:s.n = 2
  hr:s.hr = (netNew 2).hr
  ps:s.ps.map enP = l.map en01
  bi:s.bi = k
  kl:k.length = l.length
  lost:s.lost = 0
section
variable {s:NetS} {l:List (List Nat)} {k:List Int} {i:Int} {b:List Nat} {m j:Nat}
theorem TwoAt.new:TwoAt (netNew 2) [] []:=⟨rfl,rfl,rfl,rfl,rfl,rfl⟩
theorem TwoAt.len (h:TwoAt s l k):s.ps.length = l.length:=by have:=congrArg List.length h.ps; simpa using this
theorem TwoAt.inn (h:TwoAt s l k) (h0:0 ≤ i) (h1:i < 2):s.isIn i = true:=decide_eq_true ⟨h0,by rw [h.n]; exact h1⟩
theorem TwoAt.putE (h:TwoAt s l k) (hl:l.length < 4096):s.putE 0 1 = 0:=putE_ok (h.inn (by decide) (by decide)) (h.inn (by decide) (by decide)) (by rw [h.len]; omega)
theorem TwoAt.put (h:TwoAt s l k) (hl:l.length < 4096) (b:List Nat) (z:Int) (v:Value):TwoAt (s.putS 0 1 b z v) (l ++ [b]) (k ++ [z]):=by
  rw [← putS_ok (h.inn (by decide) (by decide)) (h.inn (by decide) (by decide)) (by rw [h.len]; omega)]
  refine ⟨h.n,h.hr,?_,?_,by simp [h.kl],h.lost⟩
  · show (s.ps ++ [_]).map enP = _
    rw [List.map_append,List.map_append,h.ps]; rfl
  · show s.bi ++ [z] = _
    rw [h.bi]
theorem TwoAt.get (h:TwoAt s l k) (hb:l[m]? = some b):∃ v,s.ps[m]? = some ⟨0,1,v,b⟩:=by
  have h1:(s.ps.map enP)[m]? = some (0,1,b):=by rw [h.ps,List.getElem?_map,hb]; rfl
  rw [List.getElem?_map] at h1
  cases hq:s.ps[m]? with
  | none => rw [hq] at h1; cases h1
  | some q =>
    rw [hq] at h1
    obtain ⟨f,t,v,bs⟩:=q
    have h2:(f,t,bs) = ((0:Int),(1:Int),b):=Option.some.inj h1
    injection h2 with h3 h4
    injection h4 with h4 h5
    subst h3 h4 h5
    exact ⟨v,rfl⟩
theorem TwoAt.at_ (h:TwoAt s l k) (hi:i = (m:Int)) (hb:l[m]? = some b):(0 ≤ i∧i < s.ps.length)∧s.peekP i = ⟨0,1,b⟩:=by
  obtain ⟨v,hv⟩:=h.get hb
  have:=(List.getElem?_eq_some_iff.1 hv).1
  exact ⟨by omega,peek_at (p:=⟨0,1,v,b⟩) (by omega) (by rw [hi,Int.toNat_natCast]; exact hv)⟩
theorem TwoAt.hears (h:TwoAt s l k):s.hears 0 1 = true:=by
  have:s.hears 0 1 = (netNew 2).hears 0 1:=by unfold NetS.hears NetS.isIn; rw [h.n,h.hr]; rfl
  rw [this]; exact hears_new (by decide) (by decide) (by decide) (by decide)
theorem map_eraseIdx' {α β:Type} (f:α → β) (l:List α) (m:Nat):(l.eraseIdx m).map f = (l.map f).eraseIdx m:=by
  rw [List.eraseIdx_eq_take_drop_succ,List.eraseIdx_eq_take_drop_succ,List.map_append,List.map_take,List.map_drop]
theorem TwoAt.take (h:TwoAt s l k) (hi:i = (m:Int)) (hb:l[m]? = some b):s.takeE i = 0∧s.takeP i = ⟨0,1,b⟩∧TwoAt (s.takeS i) (l.eraseIdx m) (k.eraseIdx m):=by
  obtain ⟨hin,hp⟩:=h.at_ hi hb
  have ht:=take_yes hin (by rw [hp]; exact h.hears)
  refine ⟨ht.1,by rw [ht.2.1,hp],?_⟩
  rw [← ht.2.2,hi,Int.toNat_natCast]
  have hm:=(List.getElem?_eq_some_iff.1 hb).1
  refine ⟨h.n,h.hr,?_,?_,?_,h.lost⟩
  · show (s.ps.eraseIdx m).map enP = _
    rw [map_eraseIdx',map_eraseIdx',h.ps]
  · show s.bi.eraseIdx m = _
    rw [h.bi]
  · rw [List.length_eraseIdx_of_lt (by rw [h.kl]; omega),List.length_eraseIdx_of_lt hm,h.kl]
end
def msgs (l:List (List Nat)) (J:List Nat):List (List Nat):=J.map (fun k => k::l.getD k [])
structure PicksAt (J:List Nat) (seen:List Bool) (n i:Nat):Prop where
  len:J.length = n - i
  nod:J.Nodup
  lt:∀ z ∈ J,z < n
  new:∀ z ∈ J,seen.getD z false = false
  sl:seen.length = n
section
variable {J:List Nat} {seen:List Bool} {n i m z:Nat}
theorem PicksAt.next (h:PicksAt J seen n i) (hz:J[m]? = some z):PicksAt (J.eraseIdx m) (seen.set z true) n (i + 1):=by
  have hm:=(List.getElem?_eq_some_iff.1 hz)
  obtain ⟨hm,rfl⟩:=hm
  refine ⟨by rw [List.length_eraseIdx_of_lt hm,h.len]; omega,h.nod.sublist (List.eraseIdx_sublist ..),fun z hz => h.lt z (List.mem_of_mem_eraseIdx hz),fun z hz => ?_,by rw [List.length_set]; exact h.sl⟩
  have hne:J[m] ≠ z:=by
    intro e
    subst e
    obtain ⟨q,hq,hqe⟩:=List.mem_eraseIdx_iff_getElem.1 hz
    exact hqe.1 ((List.getElem?_inj hq h.nod).1 (by rw [List.getElem?_eq_getElem hq,List.getElem?_eq_getElem hm,hqe.2]))
  rw [List.getD_eq_getElem?_getD,List.getElem?_set,if_neg hne,← List.getD_eq_getElem?_getD]
  exact h.new z (List.mem_of_mem_eraseIdx hz)
end
end Go.FM

set_option linter.unusedVariables false
set_option linter.unusedSimpArgs false
namespace Go.FM
open Go
abbrev Acc:=List (List (List Nat))
section
variable {del:List (List GItem)} {i j k:Nat} {l s s0:List GItem} {x e:GItem} {acc:Acc}
end
end Go.FM

set_option linter.unusedVariables false
set_option linter.unusedSimpArgs false
namespace Go.FM
open Go
section
variable {del d:List (List GItem)} {i j k:Nat} {l s:List GItem} {x e e1 e2:GItem} {acc:Acc}
theorem next_all3 {α:Type} {p:Nat → α → Prop} {l:List α} {i:Nat} {x:α} (ha:∀ (j:Nat) (y:α),j < i → l[j]? = some y → p j y) (hx:l[i]? = some x) (hp:p i x):∀ (j:Nat) (y:α),j < i + 1 → l[j]? = some y → p j y:=by
  intro j y hj hy
  rcases Nat.lt_succ_iff_lt_or_eq.1 hj with hj | rfl
  · exact ha j y hj hy
  · rw [hx] at hy; cases hy; exact hp
end
end Go.FM
