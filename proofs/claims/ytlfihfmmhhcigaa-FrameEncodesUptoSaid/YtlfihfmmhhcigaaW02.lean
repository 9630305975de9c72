/- Steps of the proofs over the functions of this seat, printed by a program (gen.py) and checked by Lean. -/
import Derived.Test.YtlfihfmmhhcigaaW01
import Derived.Deep.CondSized
import Derived.OpenShut
import Derived.JoinedCond
import Derived.Test.YtlfihfmmhhcigaaRows
import Derived.Test.YtlfihfmmhhcigaaProg
import Derived.Test.YtlfihfmmhhcigaaW00
import Derived.Lib.AppendZerosOnto
import Derived.Lib.Overlaps
set_option linter.unusedVariables false
set_option linter.unusedSimpArgs false
namespace Go.FM
open Go
theorem rdB_len (bs:List Nat) (b:Bool) (most:Int):(rdB bs b most).2.1.length ≤ bs.length:=by
  have:=rdI_len bs b most
  unfold rdB
  split
  · exact this
  · show ((rdI bs b most).2.1.drop _).length ≤ _; rw [List.length_drop]; omega
theorem rdI_most (bs:List Nat) (b:Bool) (most:Int) (h0:0 ≤ most):((rdI bs b most).1:Int) ≤ most:=by
  by_cases h:(rdU bs b).2.2 = true ∨ most < 0 ∨ most < ((rdU bs b).1:Int)
  · rw [rdI_bad h]; exact h0
  · have h1:(rdU bs b).2.2 = false:=by cases hq:(rdU bs b).2.2 with | false => rfl | true => exact absurd (.inl hq) h
    rw [rdI_good h1 (fun hh => h (.inr (.inl hh))) (fun hh => h (.inr (.inr hh)))]
    exact Int.not_lt.1 fun hh => h (.inr (.inr hh))
theorem rdB_most (bs:List Nat) (b:Bool) (most:Int) (h0:0 ≤ most):(((rdB bs b most).1.length:Nat):Int) ≤ most:=by
  have:=rdI_most bs b most h0
  unfold rdB
  split
  · exact h0
  · show ((((rdI bs b most).2.1.take _).length:Nat):Int) ≤ _; rw [List.length_take]; omega
theorem openL_le (b:List Nat):(openL b).1.length ≤ b.length:=by
  unfold openL
  split
  · exact Nat.zero_le _
  · split
    · rw [List.length_take]; omega
    · exact Nat.zero_le _
section
variable {bs cur:List Nat} {b bad:Bool} {q q1 q2:Nat × List Nat × Bool}
theorem vc_no (h1:q1 = rdU bs b) (h2:q2 = rdI q1.2.1 q1.2.2 15) (h:q2.2.2 = true ∨ formVI ⟨q1.1,(q2.1:Int)⟩ = false):((GViewID.mk 0 0,false),q2.2) = rdVC bs b:=by
  subst h1 h2
  unfold rdVC
  rw [if_neg (fun hc => by
    rcases h with h | h
    · have:(rdV bs b).2.2 = true:=h
      rw [hc.1] at this; cases this
    · have:formVI (rdV bs b).1 = false:=h
      rw [hc.2] at this; cases this)]
  rfl
theorem vc_yes (h1:q1 = rdU bs b) (h2:q2 = rdI q1.2.1 q1.2.2 15) (hb:q2.2.2 = false) (h:formVI ⟨q1.1,(q2.1:Int)⟩ = true):((GViewID.mk q1.1 (q2.1:Int),true),q2.2) = rdVC bs b:=by
  subst h1 h2
  unfold rdVC
  rw [if_pos ⟨hb,h⟩]
  rfl
variable {l:List GItem} {k:Int} {m:List Nat × List Nat × Bool}
def ItInv (bs:List Nat) (b:Bool) (l:List GItem) (k:Int) (cur:List Nat) (bad:Bool):Prop:=rdItems bs b = (l ++ (rlist rdItem k.toNat cur bad).1,(rlist rdItem k.toNat cur bad).2)
theorem it_start (h:q = rdI bs b 4096):ItInv bs b [] ((q.1:Nat):Int) q.2.1 q.2.2:=by subst h; rfl
theorem it_step (hi:ItInv bs b l k cur bad) (hk:0 < k) (hb:bad = false) (h1:q1 = rdI cur bad 15) (h2:m = rdB q1.2.1 q1.2.2 1048576):ItInv bs b (l ++ [⟨(q1.1:Int),m.1⟩]) (k - 1) m.2.1 m.2.2:=by
  subst h1 h2 hb
  unfold ItInv at hi ⊢
  rw [hi,show k.toNat = (k - 1).toNat + 1 by omega,rlist,if_neg (by decide)]
  rw [List.append_assoc]
  rfl
theorem it_done (hi:ItInv bs b l k cur bad) (h:k ≤ 0 ∨ bad = true):(l,cur,bad) = rdItems bs b:=by
  unfold ItInv at hi
  rw [hi]
  rcases h with h | h
  · rw [show k.toNat = 0 by omega]; simp [rlist]
  · subst h
    have:∀ n,rlist rdItem n cur true = ([],cur,true):=fun n => by cases n with | zero => rfl | succ n => rw [rlist,if_pos rfl]
    rw [this]; simp
variable {t:List GState} {v:(GViewID × Bool) × List Nat × Bool} {i:List GItem × List Nat × Bool}
theorem stC_is (h1:v = rdVC cur bad) (h2:q1 = rdI v.2.1 v.2.2 1073741824) (h3:i = rdItems q1.2.1 q1.2.2):stC cur bad = ((GState.mk v.1.1 (q1.1:Int) i.1,v.1.2 && sForm (GState.mk v.1.1 (q1.1:Int) i.1)),i.2):=by subst h1 h2 h3; rfl
def StInv (bs:List Nat) (b:Bool) (t:List GState) (k:Int) (cur:List Nat) (bad:Bool):Prop :=
  stsC (rdI bs b 4096).1 (rdI bs b 4096).2.1 (rdI bs b 4096).2.2 = ((t ++ (stsC k.toNat cur bad).1.1,(stsC k.toNat cur bad).1.2),(stsC k.toNat cur bad).2)
theorem st_start (h:q = rdI bs b 4096):StInv bs b [] ((q.1:Nat):Int) q.2.1 q.2.2:=by subst h; rfl
theorem st_step (hi:StInv bs b t k cur bad) (hk:0 < k) (hb:bad = false) (h1:v = rdVC cur bad) (h2:q1 = rdI v.2.1 v.2.2 1073741824) (h3:i = rdItems q1.2.1 q1.2.2) (h4:v.1.2 = true) (h5:sForm (GState.mk v.1.1 (q1.1:Int) i.1) = true):StInv bs b (t ++ [GState.mk v.1.1 (q1.1:Int) i.1]) (k - 1) i.2.1 i.2.2:=by
  have hc:=stC_is h1 h2 h3
  subst hb
  unfold StInv at hi ⊢
  rw [hi,show k.toNat = (k - 1).toNat + 1 by omega,stsC,if_neg (by decide),hc,if_pos (by show (v.1.2 && _) = true; rw [h4,h5]; rfl)]
  show ((t ++ (_::_),_),_) = ((t ++ [_] ++ _,_),_)
  rw [List.append_assoc]
  rfl
theorem st_no (hi:StInv bs b t k cur bad) (hk:0 < k) (hb:bad = false) (h1:v = rdVC cur bad) (h2:q1 = rdI v.2.1 v.2.2 1073741824) (h3:i = rdItems q1.2.1 q1.2.2) (h4:v.1.2 = false ∨ sForm (GState.mk v.1.1 (q1.1:Int) i.1) = false):(([],false),i.2) = statesC bs b:=by
  have hc:=stC_is h1 h2 h3
  subst hb
  unfold StInv at hi
  have e:stsC k.toNat cur false = (([],false),i.2):=by
    rw [show k.toNat = (k - 1).toNat + 1 by omega,stsC,if_neg (fun h => Bool.noConfusion h),hc,if_neg (by show ¬ (v.1.2 && _) = true; rcases h4 with h4 | h4 <;> rw [h4] <;> simp)]
  unfold statesC
  rw [hi,e,if_neg (fun h => Bool.noConfusion h)]
theorem st_done (hi:StInv bs b t k cur bad) (h:k ≤ 0 ∨ bad = true):((t,true),cur,bad) = statesC bs b:=by
  unfold StInv at hi
  have:stsC k.toNat cur bad = (([],true),cur,bad):=by
    rcases h with h | h
    · rw [show k.toNat = 0 by omega]; rfl
    · subst h; cases k.toNat with | zero => rfl | succ n => rw [stsC,if_pos rfl]
  unfold statesC
  rw [hi,this]
  simp
variable {ms:List (List Nat)}
def MsInv (bs:List Nat) (b:Bool) (l:List (List Nat)) (k:Int) (cur:List Nat) (bad:Bool):Prop:=rdMsgs bs b = (l ++ (rlist rB k.toNat cur bad).1,(rlist rB k.toNat cur bad).2)
theorem ms_start (h:q = rdI bs b 4096):MsInv bs b [] ((q.1:Nat):Int) q.2.1 q.2.2:=by subst h; rfl
theorem ms_step (hi:MsInv bs b ms k cur bad) (hk:0 < k) (hb:bad = false) (h2:m = rdB cur bad 1048576):MsInv bs b (ms ++ [m.1]) (k - 1) m.2.1 m.2.2:=by
  subst h2 hb
  unfold MsInv at hi ⊢
  rw [hi,show k.toNat = (k - 1).toNat + 1 by omega,rlist,if_neg (by decide)]
  rw [List.append_assoc]
  rfl
theorem ms_done (hi:MsInv bs b ms k cur bad) (h:k ≤ 0 ∨ bad = true):(ms,cur,bad) = rdMsgs bs b:=by
  unfold MsInv at hi
  rw [hi]
  rcases h with h | h
  · rw [show k.toNat = 0 by omega]; simp [rlist]
  · subst h
    have:∀ n,rlist rB n cur true = ([],cur,true):=fun n => by cases n with | zero => rfl | succ n => rw [rlist,if_pos rfl]
    rw [this]; simp
variable {p:List Nat} {K F:Nat} {kk f s u1 u2 u3:Nat × List Nat × Bool} {c c2 vi:(GViewID × Bool) × List Nat × Bool} {ts:(List GState × Bool) × List Nat × Bool}
theorem dec_head (h:decA bs = decP p) (hk:kk = rdI p false 255) (hf:f = rdI kk.2.1 kk.2.2 15):decA bs = decF kk.1 f:=by rw [h]; subst hk hf; rfl
theorem dec_1 (h:decA bs = decF K f) (hK:K = 1) (hc:c = rdVC f.2.1 f.2.2) (hp:c2 = rdVC c.2.1 c.2.2):decA bs = finC ⟨K,f.1,⟨0,0⟩,0,c.1.1,c2.1.1,[],0,[],[],0,0⟩ c.1.2 c2.1.2 c2.2:=by
  rw [h]; subst hK hp hc; unfold decF; rw [if_pos rfl]; rfl
theorem dec_i (h:decA bs = decF K f) (hK:K ≠ 1) (hi:vi = rdVC f.2.1 f.2.2):decA bs = decK K f.1 vi:=by
  rw [h]; subst hi; unfold decF; rw [if_neg hK]
theorem dec_2 (h:decA bs = decK K F vi) (hK:K = 2) (hs:s = rdI vi.2.1 vi.2.2 65535):decA bs = finC ⟨K,F,vi.1.1,s.1,⟨0,0⟩,⟨0,0⟩,[],0,[],[],0,0⟩ vi.1.2 true s.2:=by
  rw [h]; subst hK hs; rfl
theorem dec_3 (h:decA bs = decK K F vi) (hK:K = 3) (hs:ts = statesC vi.2.1 vi.2.2):decA bs = finC ⟨K,F,vi.1.1,0,⟨0,0⟩,⟨0,0⟩,ts.1.1,0,[],[],0,0⟩ vi.1.2 ts.1.2 ts.2:=by
  rw [h]; subst hK hs; rfl
theorem dec_4 (h:decA bs = decK K F vi) (hK:K = 4) (hs:c = rdVC vi.2.1 vi.2.2):decA bs = finC ⟨K,F,vi.1.1,0,⟨0,0⟩,c.1.1,[],0,[],[],0,0⟩ vi.1.2 c.1.2 c.2:=by
  rw [h]; subst hK hs; rfl
theorem dec_5 (h:decA bs = decK K F vi) (hK:K = 5) (hs:s = rdI vi.2.1 vi.2.2 65535) (ht:ts = statesC s.2.1 s.2.2):decA bs = finC ⟨K,F,vi.1.1,s.1,⟨0,0⟩,⟨0,0⟩,ts.1.1,0,[],[],0,0⟩ vi.1.2 ts.1.2 ts.2:=by
  rw [h]; subst hK hs ht; rfl
theorem dec_6 (h:decA bs = decK K F vi) (hK:K = 6) (h1:u1 = rdU vi.2.1 vi.2.2) (h2:u2 = rdU u1.2.1 u1.2.2) (hm:(ms,cur,bad) = rdMsgs u2.2.1 u2.2.2):decA bs = finC ⟨K,F,vi.1.1,0,⟨0,0⟩,⟨0,0⟩,[],u1.1,ms,[],u2.1,0⟩ vi.1.2 true (cur,bad):=by
  have e:rseq rdU (rseq rdU rdMsgs) vi.2.1 vi.2.2 = ((u1.1,u2.1,ms),cur,bad):=by
    subst h1 h2
    unfold rseq
    rw [← hm]
  rw [h]; subst hK; unfold decK; rw [if_neg (by decide),if_neg (by decide),if_neg (by decide),if_neg (by decide),if_pos rfl,e]; rfl
theorem dec_7 (h:decA bs = decK K F vi) (hK:K = 7) (h1:u1 = rdU vi.2.1 vi.2.2) (h2:u2 = rdU u1.2.1 u1.2.2) (h3:u3 = rdU u2.2.1 u2.2.2) (hm:i = rdItems u3.2.1 u3.2.2):decA bs = finC ⟨K,F,vi.1.1,0,⟨0,0⟩,⟨0,0⟩,[],u1.1,[],i.1,u2.1,u3.1⟩ vi.1.2 true i.2:=by
  rw [h]; subst hK h1 h2 h3 hm; rfl
theorem dec_0 (h:decA bs = decK K F vi) (h2:K ≠ 2) (h3:K ≠ 3) (h4:K ≠ 4) (h5:K ≠ 5) (h6:K ≠ 6) (h7:K ≠ 7):decA bs = (zF,3):=by
  rw [h]; unfold decK; rw [if_neg h2,if_neg h3,if_neg h4,if_neg h5,if_neg h6,if_neg h7]
variable {g:GFrame} {ok fine:Bool} {r:List Nat × Bool} {n:Nat}
theorem fin_ok (h:ok = false):finC g ok fine r = (zF,3):=if_neg (fun hc => by rw [h] at hc; cases hc.1)
theorem fin_fine (h:fine = false):finC g ok fine r = (zF,3):=if_neg (fun hc => by rw [h] at hc; cases hc.2.1)
theorem fin_bad (h:r.2 = true):finC g ok fine r = (zF,3):=if_neg (fun hc => by rw [h] at hc; cases hc.2.2.1)
theorem fin_left (hn:r.1.length = n) (h:(0:Int) < if r.2 = true then 0 else ((n:Nat):Int)):finC g ok fine r = (zF,3):=if_neg (fun hc => by
  rw [hc.2.2.2.1] at hn; subst hn; split at h <;> exact absurd h (by decide))
theorem fin_st (hk:g.Kind = 3) (h:g.States.length ≠ 1):finC g ok fine r = (zF,3):=if_neg (fun hc => h (hc.2.2.2.2.1 hk))
theorem fin_id (hk:g.Kind ≠ 1) (h:g.ID.N = 0):finC g ok fine r = (zF,3):=if_neg (fun hc => hc.2.2.2.2.2 hk h)
theorem fin_yes (h1:ok = true) (h2:fine = true) (h3:r.2 = false) (hn:r.1.length = n) (h4:¬ (0:Int) < if r.2 = true then 0 else ((n:Nat):Int)) (h5:g.Kind = 3 → g.States.length = 1) (h6:g.Kind ≠ 1 → g.ID.N ≠ 0):finC g ok fine r = (g,0) :=
  if_pos ⟨h1,h2,h3,List.eq_nil_of_length_eq_zero (by rw [h3] at h4; simp at h4; omega),h5,h6⟩
theorem tail_ok (h:¬ (ok = true) ∨ ¬ (fine = true)):finC g ok fine r = (zF,3):=by
  rcases h with h | h
  · exact fin_ok (by simpa using h)
  · exact fin_fine (by simpa using h)
theorem tail_no {m:Nat} (hn:r.1.length = n) (hm:g.States.length = m) (h:((0:Int) < (if r.2 = true then 0 else ((n:Nat):Int)) ∨ (((g.Kind:Nat):Int) = 3∧((m:Nat):Int) ≠ 1)) ∨ (((g.Kind:Nat):Int) ≠ 1∧((g.ID.N:Nat):Int) = 0)):finC g ok fine r = (zF,3):=by
  rcases h with (h | h) | h
  · exact fin_left hn h
  · exact fin_st (by omega) (by omega)
  · exact fin_id (by omega) (by omega)
theorem tail_yes {m:Nat} (h0:¬ (¬ (ok = true) ∨ ¬ (fine = true))) (hb:r.2 = false) (hn:r.1.length = n) (hm:g.States.length = m) (h:¬ (((0:Int) < (if r.2 = true then 0 else ((n:Nat):Int)) ∨ (((g.Kind:Nat):Int) = 3∧((m:Nat):Int) ≠ 1)) ∨ (((g.Kind:Nat):Int) ≠ 1∧((g.ID.N:Nat):Int) = 0))):finC g ok fine r = (g,0):=by
  rw [not_or,Classical.not_not,Classical.not_not] at h0
  exact fin_yes h0.1 h0.2 hb hn (fun hh => h (.inl (.inl hh))) (fun h3 => by omega) (fun h1 => by omega)
end
end Go.FM

set_option linter.unusedVariables false
set_option linter.unusedSimpArgs false
namespace Go.FM
open Go
def atOf (n:Nat) (cur:List Nat) (bad:Bool):Int:=if bad then -1 else (n:Int) - (cur.length:Int)
def Suf (bs cur:List Nat):Prop:=∃ k,k ≤ bs.length∧cur = bs.drop k
theorem atOf_false (n:Nat) (cur:List Nat):atOf n cur false = (n:Int) - (cur.length:Int):=rfl
theorem Suf.refl (bs:List Nat):Suf bs bs:=⟨0,Nat.zero_le _,rfl⟩
theorem Suf.len {bs cur:List Nat} (h:Suf bs cur):cur.length ≤ bs.length:=by obtain ⟨k,hk,rfl⟩:=h; simp
theorem Suf.drop {bs cur:List Nat} (h:Suf bs cur) (m:Nat):Suf bs (cur.drop m):=by
  obtain ⟨k,hk,rfl⟩:=h
  by_cases hm:k + m ≤ bs.length
  · exact ⟨k + m,hm,by rw [List.drop_drop]⟩
  · exact ⟨bs.length,Nat.le_refl _,by rw [List.drop_drop,List.drop_eq_nil_of_le (by omega),List.drop_length]⟩
theorem rdU_sub (cur:List Nat) (bad:Bool):∃ m,(rdU cur bad).2.1 = cur.drop m:=by
  unfold rdU
  split
  · exact ⟨0,rfl⟩
  · split
    · rename_i h
      obtain ⟨k,h1,_,_⟩:=uscan_sub _ _ _ h
      exact ⟨k,h1⟩
    · exact ⟨0,rfl⟩
theorem Suf.rdU {bs cur:List Nat} (h:Suf bs cur) (bad:Bool):Suf bs (rdU cur bad).2.1:=by
  obtain ⟨m,e⟩:=rdU_sub cur bad
  rw [e]; exact h.drop m
theorem Suf.rdI {bs cur:List Nat} (h:Suf bs cur) (bad:Bool) (most:Int):Suf bs (rdI cur bad most).2.1:=by
  unfold FM.rdI; split <;> exact h.rdU bad
theorem Suf.rdB {bs cur:List Nat} (h:Suf bs cur) (bad:Bool) (most:Int):Suf bs (rdB cur bad most).2.1:=by
  unfold FM.rdB; split
  · exact h.rdI bad most
  · exact (h.rdI bad most).drop _
theorem Rr.at_ {n:Nat} {bs cur:List Nat} {bad:Bool} {a:Int} (h:Rr n bs cur bad a) (hn:bs.length = n):a = atOf n cur bad:=by
  rcases h with ⟨rfl,rfl⟩ | ⟨rfl,k,hk,rfl,rfl⟩
  · rfl
  · rw [atOf_false,List.length_drop]; omega
end Go.FM
namespace Go.FM
end Go.FM

set_option linter.unusedVariables false
set_option linter.unusedSimpArgs false
namespace Go.FM
open Go
theorem vid00:(vidE ⟨0,0⟩).length = 2:=by unfold vidE; rw [show uenc (GViewID.mk 0 0).N = [0] from uenc_one (n:=0) (by decide)]; rfl
theorem ms00:(msgsE []).length = 1:=by unfold msgsE; rw [show uenc ([]:List (List Nat)).length = [0] from uenc_one (n:=0) (by decide)]; rfl
theorem it00:(itemsE []).length = 1:=by unfold itemsE; rw [show uenc ([]:List GItem).length = [0] from uenc_one (n:=0) (by decide)]; rfl
theorem st00:(statesE []).length = 1:=by unfold statesE; rw [show uenc ([]:List GState).length = [0] from uenc_one (n:=0) (by decide)]; rfl
section
variable {bs cur p l9:List Nat} {b bad:Bool} {q q1 q2 kk f s u1 u2 u3:Nat × List Nat × Bool} {K F n:Nat}
variable {l:List GItem} {k k':Int} {m:List Nat × List Nat × Bool}
variable {ms:List (List Nat)}
variable {t:List GState} {v:GViewID × List Nat × Bool} {i:List GItem × List Nat × Bool}
variable {vi c c2:GViewID × List Nat × Bool} {ts:List GState × List Nat × Bool}
variable {g:GFrame} {r:List Nat × Bool}
theorem form_kind (h:formC g = true):1 ≤ g.Kind∧g.Kind ≤ 7:=by have:=(formC_all.1 h).1; omega
end
end Go.FM

set_option linter.unusedVariables false
set_option linter.unusedSimpArgs false
namespace Go.FM
open Go
theorem dec_of_enc {f:GFrame} (hf:formC f = true) (hb:FB f) (hl:¬ 1048572 < (bodyE f).length):decA (seal_ (bodyE f)) = (f,0):=by
  rw [decA_read (by rw [seal_length]; omega) (by rw [open_seal]),open_seal]; exact decP_cmp hf hb
theorem awk:encC (GFrame.mk 1 1 (GViewID.mk 0 0) 0 (GViewID.mk 0 0) (GViewID.mk 0 0) [] 0 [] [] 0 0) = (seal_ [1,1,0,0,0,0],0):=by
  have hv:vidE ⟨0,0⟩ = [0,0]:=by unfold vidE; rw [show uenc (GViewID.mk 0 0).N = [0] from uenc_one (n:=0) (by decide)]; rfl
  have hb:bodyE (GFrame.mk 1 1 (GViewID.mk 0 0) 0 (GViewID.mk 0 0) (GViewID.mk 0 0) [] 0 [] [] 0 0) = [1,1,0,0,0,0]:=by
    unfold bodyE idE kindE
    rw [if_pos rfl,if_pos rfl]
    show [1,_] ++ [] ++ (vidE ⟨0,0⟩ ++ vidE ⟨0,0⟩) = _
    rw [hv]; rfl
  rw [encC_yes (by decide) (by rw [hb]; decide),hb]
theorem awk_big:bigF (GFrame.mk 1 1 (GViewID.mk 0 0) 0 (GViewID.mk 0 0) (GViewID.mk 0 0) [] 0 [] [] 0 0) ≤ 1000000000:=by
  have h1:=vid00
  have h2:=ms00
  have h3:=it00
  have h4:=st00
  unfold bigF
  show (vidE ⟨0,0⟩).length + (vidE ⟨0,0⟩).length + (vidE ⟨0,0⟩).length + (statesE []).length + (msgsE []).length + (itemsE []).length ≤ _
  omega
theorem awk_len:(seal_ [1,1,0,0,0,0]).length = 10:=by rw [seal_length]; rfl
theorem awk_take:(seal_ [1,1,0,0,0,0]).take 6 = [1,1,0,0,0,0]:=by unfold seal_; rfl
theorem encC_len (f:GFrame):(encC f).1.length ≤ 1048576:=by
  unfold encC
  split
  · split
    · exact Nat.zero_le _
    · show (seal_ (bodyE f)).length ≤ _; rw [seal_length]; omega
  · exact Nat.zero_le _
def zT {α:Type} (g:α → Nat) (l:List α) (i:Nat):Nat:=((l.take i).map g).sum
theorem zT_next {α:Type} {g:α → Nat} {l:List α} {i:Nat} {e:α} (h:l[i]? = some e):zT g l (i + 1) = zT g l i + g e:=by
  unfold zT; rw [take_succ' h,List.map_append,List.sum_append]; simp
theorem zT_le {α:Type} (g:α → Nat) (l:List α) (i:Nat):zT g l i ≤ (l.map g).sum:=by
  have:(l.map g).sum = zT g l i + ((l.drop i).map g).sum:=by
    unfold zT; rw [← List.sum_append,← List.map_append,List.take_append_drop]
  omega
theorem zT_all {α:Type} {g:α → Nat} {l:List α} {i:Nat} (h:l.length ≤ i):zT g l i = (l.map g).sum:=by
  unfold zT; rw [List.take_of_length_le h]
def gM (x:GItem):Nat:=x.M.length
def gS (s:GState):Nat:=s.Items.length + (s.Items.map gM).sum
theorem sizeF_eq (f:GFrame):sizeF f = f.Msgs.length + f.Items.length + f.States.length + (f.Msgs.map List.length).sum + (f.Items.map gM).sum + (f.States.map gS).sum:=rfl
theorem great_is {f:GFrame} {n:Nat} (h:n = sizeF f):decide ((20000:Int) < ((n:Nat):Int)) = greatF f:=by
  unfold greatF; rw [h]; exact decide_eq_decide.2 (by omega)
end Go.FM

set_option linter.unusedVariables false
set_option linter.unusedSimpArgs false
namespace Go.FM
open Go
section
variable {f g:GFrame}
theorem mem_sum {α:Type} {k:α → Nat}:∀ {l:List α} {x:α},x ∈ l → k x ≤ (l.map k).sum
  | y::l,x,h => by
    rw [List.map_cons,List.sum_cons]
    rcases List.mem_cons.1 h with rfl | h
    · omega
    · have:=mem_sum (k:=k) h; omega
theorem size_parts (h:sizeF f ≤ 1048576):(∀ m ∈ f.Msgs,m.length ≤ 1048576)∧(∀ x ∈ f.Items,x.M.length ≤ 1048576)∧(∀ s ∈ f.States,s.Items.length ≤ 1048576∧∀ x ∈ s.Items,x.M.length ≤ 1048576)∧f.Msgs.length ≤ 1048576∧f.Items.length ≤ 1048576∧f.States.length ≤ 1048576:=by
  rw [sizeF_eq] at h
  refine ⟨fun m hm => ?_,fun x hx => ?_,fun s hs => ?_,by omega,by omega,by omega⟩
  · have:=mem_sum (k:=List.length) hm; omega
  · have:=mem_sum (k:=gM) hx; have:gM x = x.M.length:=rfl; omega
  · have h1:=mem_sum (k:=gS) hs
    have h2:gS s = s.Items.length + (s.Items.map gM).sum:=rfl
    refine ⟨by omega,fun x hx => ?_⟩
    have:=mem_sum (k:=gM) hx; have:gM x = x.M.length:=rfl; omega
theorem fb_of (h:sizeF f ≤ 1048576) (h1:f.ID.N < 18446744073709551616) (h2:f.Cur.N < 18446744073709551616) (h3:f.Prom.N < 18446744073709551616) (h4:f.Set < 65536) (h5:f.Base < 18446744073709551616) (h6:f.Ack < 18446744073709551616) (h7:f.Safe < 18446744073709551616) (hs:∀ s ∈ f.States,s.V.N < 18446744073709551616):FB f:=by
  obtain ⟨p1,p2,p3,_⟩:=size_parts h
  exact ⟨h1,h2,h3,h4,h5,h6,h7,p1,p2,fun s hm => ⟨hs s hm,(p3 s hm).2⟩⟩
theorem big_of (h:greatF f = false) (hs:sizeF f ≤ 1048576) (hb:FB f):bigF f ≤ 860100:=by
  obtain ⟨p1,p2,p3,p4,p5,p6⟩:=size_parts hs
  exact great_no h ⟨hb.id,hb.cur,hb.prom,fun m hm => by have:=p1 m hm; omega,fun x hx => by have:=p2 x hx; omega,fun s hm => ⟨(hb.states s hm).1,by have:=(p3 s hm).1; omega,fun x hx => by have:=(p3 s hm).2 x hx; omega⟩⟩ (by omega) (by omega) (by omega)
theorem body_short (h:bigF f ≤ 860100) (hb:FB f):(bodyE f).length ≤ 860132:=by
  have:=bodyE_len f (uenc_len10 (by have:=hb.set; omega)) (uenc_len10 hb.base) (uenc_len10 hb.ack) (uenc_len10 hb.safe)
  omega
theorem enc_is (hf:formC f = true) (h:bigF f ≤ 860100) (hb:FB f):encC f = (seal_ (bodyE f),0):=encC_yes hf (by have:=body_short h hb; omega)
theorem dec_is (hf:formC f = true) (h:bigF f ≤ 860100) (hb:FB f):decA (encC f).1 = (f,0):=by
  rw [enc_is hf h hb]; exact dec_of_enc hf hb (by have:=body_short h hb; omega)
theorem seal_inj {a b:List Nat} (h:seal_ a = seal_ b):a = b:=by
  have:=open_seal a
  rw [h,open_seal] at this
  injection this with this
  exact this.symm
theorem apart (hf:formC f = true) (h:bigF f ≤ 860100) (hb:FB f) (hg:formC g = true) (h':bigF g ≤ 860100) (hb':FB g):((encC f).1 = (encC g).1) ↔ f = g:=by
  rw [enc_is hf h hb,enc_is hg h' hb']
  exact ⟨fun e => body_inj hf hg hb hb' (seal_inj e),fun e => by rw [e]⟩
end
end Go.FM

set_option linter.unusedVariables false
set_option linter.unusedSimpArgs false
namespace Go.FM
open Go
def zIt (x:GItem):Nat:=x.M.length
def zSt (s:GState):Nat:=zL zIt s.Items
def zFr (f:GFrame):Nat:=zL zSt f.States + zL List.length f.Msgs + zL zIt f.Items
theorem zL_sum {α:Type} (z:α → Nat) (l:List α):zL z l = l.length + (l.map z).sum:=by
  unfold zL
  induction l with
  | nil => rfl
  | cons a l ih => rw [List.map_cons,List.sum_cons,ih,List.map_cons,List.sum_cons,List.length_cons]; omega
theorem size_zFr (f:GFrame):sizeF f = zFr f:=by
  have h:(f.States.map zSt).sum = (f.States.map gS).sum:=by
    congr 1; apply List.map_congr_left; intro s _; unfold zSt gS; rw [zL_sum]; rfl
  unfold zFr
  rw [sizeF_eq,zL_sum,zL_sum,zL_sum,h]
  show _ = _ + _ + (_ + _) + (_ + (f.Items.map gM).sum)
  omega
theorem Sl.mem_rep {α:Type} {d:Kd α} {H:Hp} {A:Option Addr} {n c:Nat} {xs:List α} (h:Sl d H A n c xs) {x:α} (hx:x ∈ xs):∃ cs,d.rep H x cs:=by
  obtain ⟨cells,_,h2⟩:=h.sl
  obtain ⟨j,hj,rfl⟩:=List.mem_iff_getElem.1 hx
  obtain ⟨c',h3,_⟩:=h2.2 j _ (List.getElem?_eq_getElem hj)
  exact ⟨c',h3⟩
theorem fr_fb {H:Hp} {f:GFrame} {cs:List Value} (h:kFrame.rep H f cs) (hz:sizeF f ≤ 1048576):FB f:=by
  obtain ⟨A1,n2,c3,A4,n5,c6,A7,n8,c9,rfl,h0,h1,h2,h3,h4,h5,h6,h7,h8,h9,h10,h11,h12,h13,h14⟩:=h
  refine fb_of hz h2 h5 h7 h4 h10 h13 h14 fun s hs => ?_
  obtain ⟨c,A,n,k,_,hN,_⟩:=Sl.mem_rep h9 hs
  exact hN
end Go.FM

set_option linter.unusedVariables false
set_option linter.unusedSimpArgs false
namespace Go.Proofs.Ytlfihfmmhhcigaa
open Go Go.FM Go.Proofs Go.ChangeShapes Go.WideShapes Go.ChangeAt Go.RowKit
theorem own:ownKnob Try.prog.godebug = none:=by kernel_rfl
theorem laidOut:laidOutB Try.prog = true:=by kernel_rfl
theorem blk {H:Type}:Blk (Hh:=H) Rows.uptoBulk Rows.uptoBulkAll where
  nil:=by simp [Rows.uptoBulkAll]
  cons d l:=by simp [Rows.uptoBulkAll]
  one d:=by
    cases d with
    | lit l => cases l <;> simp [Rows.uptoBulk]
    | _ => simp [Rows.uptoBulk]
  slice e s:=by simp only [Rows.uptoBulk]; omega
  agg p:=by simp only [Rows.uptoBulk]; omega
theorem opnz5:OpnZ Try.prog 5 (kU .u8 256 1 (by decide)) (fun _ => 0):=opnz_nat Try.underlying5 rfl rfl
theorem opnz3:OpnZ Try.prog 3 kI (fun _ => 0):=opnz_i64 Try.underlying3
theorem opnz22:OpnZ Try.prog 22 (kU .u64 18446744073709551616 8 (by decide)) (fun _ => 0):=opnz_nat Try.underlying22 rfl rfl
theorem opnz24:OpnZ Try.prog 24 kViewID (fun _ => 0):=fun {Hh bk bkA} hb {enc W fuel cs x} h hw => by
  obtain ⟨hl,xs,hxl,hbk,hp⟩:=opnz_parts hb Try.underlying24 h hw
  rw [show Try.prog.cellsOf 24 = 2 from by kernel_rfl] at hl
  have y0:xs.length = 2:=hxl
  obtain ⟨x0,xr0,rfl,y1,e0z⟩:=bk_cons (n:=1) hb _ y0
  obtain ⟨x1,xr1,rfl,y2,e1z⟩:=bk_cons (n:=0) hb _ y1
  have u0:cs.length = 2:=hl
  obtain ⟨v0,vr0,rfl,u1⟩:=len_cons (n:=1) _ u0
  obtain ⟨v1,vr1,rfl,u2⟩:=len_cons (n:=0) _ u1
  obtain rfl:=List.eq_nil_of_length_eq_zero u2
  obtain ⟨a0,r0,s0⟩:=hp 0 _ rfl opnz22
  have s0:=s0 x0 rfl
  have r0:(kU .u64 18446744073709551616 8 (by decide)).rep _ a0 (([v0,v1].drop 0).take (Try.prog.cellsOf 22)):=r0
  rw [show Try.prog.cellsOf 22 = 1 from by kernel_rfl] at r0
  have r0:(kU .u64 18446744073709551616 8 (by decide)).rep _ a0 [v0]:=r0
  obtain ⟨a1,r1,s1⟩:=hp 1 _ rfl opnz3
  have s1:=s1 x1 rfl
  have r1:kI.rep _ a1 (([v0,v1].drop 1).take (Try.prog.cellsOf 3)):=r1
  rw [show Try.prog.cellsOf 3 = 1 from by kernel_rfl] at r1
  have r1:kI.rep _ a1 [v1]:=r1
  obtain ⟨e0,b_1⟩:=r0
  try simp only [List.cons.injEq,and_true] at e0
  first | subst e0 | cases e0
  obtain ⟨e1,⟨b_101,b_102⟩⟩:=r1
  try simp only [List.cons.injEq,and_true] at e1
  first | subst e1 | cases e1
  refine ⟨GViewID.mk a0 a1,⟨rfl,b_1,⟨b_101,b_102⟩⟩,?_⟩
  have hz:(fun _ => 0) (GViewID.mk a0 a1) = 0:=rfl
  rw [hz]; omega
theorem opnz25:OpnZ Try.prog 25 (kU .u16 65536 2 (by decide)) (fun _ => 0):=opnz_nat Try.underlying25 rfl rfl
theorem opnz33:OpnZ Try.prog 33 kBs List.length:=opnz_bytes Try.underlying33 Try.underlying5 (by kernel_rfl) (by kernel_rfl)
theorem opnz49:OpnZ Try.prog 49 kItem zIt:=fun {Hh bk bkA} hb {enc W fuel cs x} h hw => by
  obtain ⟨hl,xs,hxl,hbk,hp⟩:=opnz_parts hb Try.underlying49 h hw
  rw [show Try.prog.cellsOf 49 = 2 from by kernel_rfl] at hl
  have y0:xs.length = 2:=hxl
  obtain ⟨x0,xr0,rfl,y1,e0z⟩:=bk_cons (n:=1) hb _ y0
  obtain ⟨x1,xr1,rfl,y2,e1z⟩:=bk_cons (n:=0) hb _ y1
  have u0:cs.length = 2:=hl
  obtain ⟨v0,vr0,rfl,u1⟩:=len_cons (n:=1) _ u0
  obtain ⟨v1,vr1,rfl,u2⟩:=len_cons (n:=0) _ u1
  obtain rfl:=List.eq_nil_of_length_eq_zero u2
  obtain ⟨a0,r0,s0⟩:=hp 0 _ rfl opnz3
  have s0:=s0 x0 rfl
  have r0:kI.rep _ a0 (([v0,v1].drop 0).take (Try.prog.cellsOf 3)):=r0
  rw [show Try.prog.cellsOf 3 = 1 from by kernel_rfl] at r0
  have r0:kI.rep _ a0 [v0]:=r0
  obtain ⟨a1,r1,s1⟩:=hp 1 _ rfl opnz33
  have s1:=s1 x1 rfl
  have r1:kBs.rep _ a1 (([v0,v1].drop 1).take (Try.prog.cellsOf 33)):=r1
  rw [show Try.prog.cellsOf 33 = 1 from by kernel_rfl] at r1
  have r1:kBs.rep _ a1 [v1]:=r1
  obtain ⟨e0,⟨b_1,b_2⟩⟩:=r0
  try simp only [List.cons.injEq,and_true] at e0
  first | subst e0 | cases e0
  obtain ⟨A_101,n_102,c_103,e1,hy_104⟩:=r1
  try simp only [List.cons.injEq,and_true] at e1
  first | subst e1 | cases e1
  refine ⟨GItem.mk a0 a1,⟨A_101,n_102,c_103,rfl,⟨b_1,b_2⟩,hy_104⟩,?_⟩
  have hz:zIt (GItem.mk a0 a1) = List.length a1:=rfl
  rw [hz]; omega
theorem opnz28:OpnZ Try.prog 28 (kSl kItem) (zL zIt):=opnz_sl Try.underlying28 (by kernel_rfl) (by kernel_rfl) opnz49
theorem opnz52:OpnZ Try.prog 52 kState zSt:=fun {Hh bk bkA} hb {enc W fuel cs x} h hw => by
  obtain ⟨hl,xs,hxl,hbk,hp⟩:=opnz_parts hb Try.underlying52 h hw
  rw [show Try.prog.cellsOf 52 = 4 from by kernel_rfl] at hl
  have y0:xs.length = 3:=hxl
  obtain ⟨x0,xr0,rfl,y1,e0z⟩:=bk_cons (n:=2) hb _ y0
  obtain ⟨x1,xr1,rfl,y2,e1z⟩:=bk_cons (n:=1) hb _ y1
  obtain ⟨x2,xr2,rfl,y3,e2z⟩:=bk_cons (n:=0) hb _ y2
  have u0:cs.length = 4:=hl
  obtain ⟨v0,vr0,rfl,u1⟩:=len_cons (n:=3) _ u0
  obtain ⟨v1,vr1,rfl,u2⟩:=len_cons (n:=2) _ u1
  obtain ⟨v2,vr2,rfl,u3⟩:=len_cons (n:=1) _ u2
  obtain ⟨v3,vr3,rfl,u4⟩:=len_cons (n:=0) _ u3
  obtain rfl:=List.eq_nil_of_length_eq_zero u4
  obtain ⟨a0,r0,s0⟩:=hp 0 _ rfl opnz24
  have s0:=s0 x0 rfl
  have r0:kViewID.rep _ a0 (([v0,v1,v2,v3].drop 0).take (Try.prog.cellsOf 24)):=r0
  rw [show Try.prog.cellsOf 24 = 2 from by kernel_rfl] at r0
  have r0:kViewID.rep _ a0 [v0,v1]:=r0
  obtain ⟨a1,r1,s1⟩:=hp 1 _ rfl opnz3
  have s1:=s1 x1 rfl
  have r1:kI.rep _ a1 (([v0,v1,v2,v3].drop 2).take (Try.prog.cellsOf 3)):=r1
  rw [show Try.prog.cellsOf 3 = 1 from by kernel_rfl] at r1
  have r1:kI.rep _ a1 [v2]:=r1
  obtain ⟨a2,r2,s2⟩:=hp 2 _ rfl opnz28
  have s2:=s2 x2 rfl
  have r2:(kSl kItem).rep _ a2 (([v0,v1,v2,v3].drop 3).take (Try.prog.cellsOf 28)):=r2
  rw [show Try.prog.cellsOf 28 = 1 from by kernel_rfl] at r2
  have r2:(kSl kItem).rep _ a2 [v3]:=r2
  obtain ⟨e0,b_1,⟨b_2,b_3⟩⟩:=r0
  try simp only [List.cons.injEq,and_true] at e0
  first | (obtain ⟨rfl,rfl⟩:=e0) | cases e0
  obtain ⟨e1,⟨b_101,b_102⟩⟩:=r1
  try simp only [List.cons.injEq,and_true] at e1
  first | subst e1 | cases e1
  obtain ⟨A_201,n_202,c_203,e2,hl_204⟩:=r2
  try simp only [List.cons.injEq,and_true] at e2
  first | subst e2 | cases e2
  refine ⟨GState.mk a0 a1 a2,⟨A_201,n_202,c_203,rfl,b_1,⟨b_2,b_3⟩,⟨b_101,b_102⟩,hl_204⟩,?_⟩
  have hz:zSt (GState.mk a0 a1 a2) = (zL zIt) a2:=rfl
  rw [hz]; omega
theorem opnz26:OpnZ Try.prog 26 (kSl kState) (zL zSt):=opnz_sl Try.underlying26 (by kernel_rfl) (by kernel_rfl) opnz52
theorem opnz27:OpnZ Try.prog 27 (kSl kBs) (zL List.length):=opnz_sl Try.underlying27 (by kernel_rfl) (by kernel_rfl) opnz33
theorem opnz30:OpnZ Try.prog 30 kFrame zFr:=fun {Hh bk bkA} hb {enc W fuel cs x} h hw => by
  obtain ⟨hl,xs,hxl,hbk,hp⟩:=opnz_parts hb Try.underlying30 h hw
  rw [show Try.prog.cellsOf 30 = 15 from by kernel_rfl] at hl
  have y0:xs.length = 12:=hxl
  obtain ⟨x0,xr0,rfl,y1,e0z⟩:=bk_cons (n:=11) hb _ y0
  obtain ⟨x1,xr1,rfl,y2,e1z⟩:=bk_cons (n:=10) hb _ y1
  obtain ⟨x2,xr2,rfl,y3,e2z⟩:=bk_cons (n:=9) hb _ y2
  obtain ⟨x3,xr3,rfl,y4,e3z⟩:=bk_cons (n:=8) hb _ y3
  obtain ⟨x4,xr4,rfl,y5,e4z⟩:=bk_cons (n:=7) hb _ y4
  obtain ⟨x5,xr5,rfl,y6,e5z⟩:=bk_cons (n:=6) hb _ y5
  obtain ⟨x6,xr6,rfl,y7,e6z⟩:=bk_cons (n:=5) hb _ y6
  obtain ⟨x7,xr7,rfl,y8,e7z⟩:=bk_cons (n:=4) hb _ y7
  obtain ⟨x8,xr8,rfl,y9,e8z⟩:=bk_cons (n:=3) hb _ y8
  obtain ⟨x9,xr9,rfl,y10,e9z⟩:=bk_cons (n:=2) hb _ y9
  obtain ⟨x10,xr10,rfl,y11,e10z⟩:=bk_cons (n:=1) hb _ y10
  obtain ⟨x11,xr11,rfl,y12,e11z⟩:=bk_cons (n:=0) hb _ y11
  have u0:cs.length = 15:=hl
  obtain ⟨v0,vr0,rfl,u1⟩:=len_cons (n:=14) _ u0
  obtain ⟨v1,vr1,rfl,u2⟩:=len_cons (n:=13) _ u1
  obtain ⟨v2,vr2,rfl,u3⟩:=len_cons (n:=12) _ u2
  obtain ⟨v3,vr3,rfl,u4⟩:=len_cons (n:=11) _ u3
  obtain ⟨v4,vr4,rfl,u5⟩:=len_cons (n:=10) _ u4
  obtain ⟨v5,vr5,rfl,u6⟩:=len_cons (n:=9) _ u5
  obtain ⟨v6,vr6,rfl,u7⟩:=len_cons (n:=8) _ u6
  obtain ⟨v7,vr7,rfl,u8⟩:=len_cons (n:=7) _ u7
  obtain ⟨v8,vr8,rfl,u9⟩:=len_cons (n:=6) _ u8
  obtain ⟨v9,vr9,rfl,u10⟩:=len_cons (n:=5) _ u9
  obtain ⟨v10,vr10,rfl,u11⟩:=len_cons (n:=4) _ u10
  obtain ⟨v11,vr11,rfl,u12⟩:=len_cons (n:=3) _ u11
  obtain ⟨v12,vr12,rfl,u13⟩:=len_cons (n:=2) _ u12
  obtain ⟨v13,vr13,rfl,u14⟩:=len_cons (n:=1) _ u13
  obtain ⟨v14,vr14,rfl,u15⟩:=len_cons (n:=0) _ u14
  obtain rfl:=List.eq_nil_of_length_eq_zero u15
  obtain ⟨a0,r0,s0⟩:=hp 0 _ rfl opnz5
  have s0:=s0 x0 rfl
  have r0:(kU .u8 256 1 (by decide)).rep _ a0 (([v0,v1,v2,v3,v4,v5,v6,v7,v8,v9,v10,v11,v12,v13,v14].drop 0).take (Try.prog.cellsOf 5)):=r0
  rw [show Try.prog.cellsOf 5 = 1 from by kernel_rfl] at r0
  have r0:(kU .u8 256 1 (by decide)).rep _ a0 [v0]:=r0
  obtain ⟨a1,r1,s1⟩:=hp 1 _ rfl opnz3
  have s1:=s1 x1 rfl
  have r1:kI.rep _ a1 (([v0,v1,v2,v3,v4,v5,v6,v7,v8,v9,v10,v11,v12,v13,v14].drop 1).take (Try.prog.cellsOf 3)):=r1
  rw [show Try.prog.cellsOf 3 = 1 from by kernel_rfl] at r1
  have r1:kI.rep _ a1 [v1]:=r1
  obtain ⟨a2,r2,s2⟩:=hp 2 _ rfl opnz24
  have s2:=s2 x2 rfl
  have r2:kViewID.rep _ a2 (([v0,v1,v2,v3,v4,v5,v6,v7,v8,v9,v10,v11,v12,v13,v14].drop 2).take (Try.prog.cellsOf 24)):=r2
  rw [show Try.prog.cellsOf 24 = 2 from by kernel_rfl] at r2
  have r2:kViewID.rep _ a2 [v2,v3]:=r2
  obtain ⟨a3,r3,s3⟩:=hp 3 _ rfl opnz25
  have s3:=s3 x3 rfl
  have r3:(kU .u16 65536 2 (by decide)).rep _ a3 (([v0,v1,v2,v3,v4,v5,v6,v7,v8,v9,v10,v11,v12,v13,v14].drop 4).take (Try.prog.cellsOf 25)):=r3
  rw [show Try.prog.cellsOf 25 = 1 from by kernel_rfl] at r3
  have r3:(kU .u16 65536 2 (by decide)).rep _ a3 [v4]:=r3
  obtain ⟨a4,r4,s4⟩:=hp 4 _ rfl opnz24
  have s4:=s4 x4 rfl
  have r4:kViewID.rep _ a4 (([v0,v1,v2,v3,v4,v5,v6,v7,v8,v9,v10,v11,v12,v13,v14].drop 5).take (Try.prog.cellsOf 24)):=r4
  rw [show Try.prog.cellsOf 24 = 2 from by kernel_rfl] at r4
  have r4:kViewID.rep _ a4 [v5,v6]:=r4
  obtain ⟨a5,r5,s5⟩:=hp 5 _ rfl opnz24
  have s5:=s5 x5 rfl
  have r5:kViewID.rep _ a5 (([v0,v1,v2,v3,v4,v5,v6,v7,v8,v9,v10,v11,v12,v13,v14].drop 7).take (Try.prog.cellsOf 24)):=r5
  rw [show Try.prog.cellsOf 24 = 2 from by kernel_rfl] at r5
  have r5:kViewID.rep _ a5 [v7,v8]:=r5
  obtain ⟨a6,r6,s6⟩:=hp 6 _ rfl opnz26
  have s6:=s6 x6 rfl
  have r6:(kSl kState).rep _ a6 (([v0,v1,v2,v3,v4,v5,v6,v7,v8,v9,v10,v11,v12,v13,v14].drop 9).take (Try.prog.cellsOf 26)):=r6
  rw [show Try.prog.cellsOf 26 = 1 from by kernel_rfl] at r6
  have r6:(kSl kState).rep _ a6 [v9]:=r6
  obtain ⟨a7,r7,s7⟩:=hp 7 _ rfl opnz22
  have s7:=s7 x7 rfl
  have r7:(kU .u64 18446744073709551616 8 (by decide)).rep _ a7 (([v0,v1,v2,v3,v4,v5,v6,v7,v8,v9,v10,v11,v12,v13,v14].drop 10).take (Try.prog.cellsOf 22)):=r7
  rw [show Try.prog.cellsOf 22 = 1 from by kernel_rfl] at r7
  have r7:(kU .u64 18446744073709551616 8 (by decide)).rep _ a7 [v10]:=r7
  obtain ⟨a8,r8,s8⟩:=hp 8 _ rfl opnz27
  have s8:=s8 x8 rfl
  have r8:(kSl kBs).rep _ a8 (([v0,v1,v2,v3,v4,v5,v6,v7,v8,v9,v10,v11,v12,v13,v14].drop 11).take (Try.prog.cellsOf 27)):=r8
  rw [show Try.prog.cellsOf 27 = 1 from by kernel_rfl] at r8
  have r8:(kSl kBs).rep _ a8 [v11]:=r8
  obtain ⟨a9,r9,s9⟩:=hp 9 _ rfl opnz28
  have s9:=s9 x9 rfl
  have r9:(kSl kItem).rep _ a9 (([v0,v1,v2,v3,v4,v5,v6,v7,v8,v9,v10,v11,v12,v13,v14].drop 12).take (Try.prog.cellsOf 28)):=r9
  rw [show Try.prog.cellsOf 28 = 1 from by kernel_rfl] at r9
  have r9:(kSl kItem).rep _ a9 [v12]:=r9
  obtain ⟨a10,r10,s10⟩:=hp 10 _ rfl opnz22
  have s10:=s10 x10 rfl
  have r10:(kU .u64 18446744073709551616 8 (by decide)).rep _ a10 (([v0,v1,v2,v3,v4,v5,v6,v7,v8,v9,v10,v11,v12,v13,v14].drop 13).take (Try.prog.cellsOf 22)):=r10
  rw [show Try.prog.cellsOf 22 = 1 from by kernel_rfl] at r10
  have r10:(kU .u64 18446744073709551616 8 (by decide)).rep _ a10 [v13]:=r10
  obtain ⟨a11,r11,s11⟩:=hp 11 _ rfl opnz22
  have s11:=s11 x11 rfl
  have r11:(kU .u64 18446744073709551616 8 (by decide)).rep _ a11 (([v0,v1,v2,v3,v4,v5,v6,v7,v8,v9,v10,v11,v12,v13,v14].drop 14).take (Try.prog.cellsOf 22)):=r11
  rw [show Try.prog.cellsOf 22 = 1 from by kernel_rfl] at r11
  have r11:(kU .u64 18446744073709551616 8 (by decide)).rep _ a11 [v14]:=r11
  obtain ⟨e0,b_1⟩:=r0
  try simp only [List.cons.injEq,and_true] at e0
  first | subst e0 | cases e0
  obtain ⟨e1,⟨b_101,b_102⟩⟩:=r1
  try simp only [List.cons.injEq,and_true] at e1
  first | subst e1 | cases e1
  obtain ⟨e2,b_201,⟨b_202,b_203⟩⟩:=r2
  try simp only [List.cons.injEq,and_true] at e2
  first | (obtain ⟨rfl,rfl⟩:=e2) | cases e2
  obtain ⟨e3,b_301⟩:=r3
  try simp only [List.cons.injEq,and_true] at e3
  first | subst e3 | cases e3
  obtain ⟨e4,b_401,⟨b_402,b_403⟩⟩:=r4
  try simp only [List.cons.injEq,and_true] at e4
  first | (obtain ⟨rfl,rfl⟩:=e4) | cases e4
  obtain ⟨e5,b_501,⟨b_502,b_503⟩⟩:=r5
  try simp only [List.cons.injEq,and_true] at e5
  first | (obtain ⟨rfl,rfl⟩:=e5) | cases e5
  obtain ⟨A_601,n_602,c_603,e6,hl_604⟩:=r6
  try simp only [List.cons.injEq,and_true] at e6
  first | subst e6 | cases e6
  obtain ⟨e7,b_701⟩:=r7
  try simp only [List.cons.injEq,and_true] at e7
  first | subst e7 | cases e7
  obtain ⟨A_801,n_802,c_803,e8,hl_804⟩:=r8
  try simp only [List.cons.injEq,and_true] at e8
  first | subst e8 | cases e8
  obtain ⟨A_901,n_902,c_903,e9,hl_904⟩:=r9
  try simp only [List.cons.injEq,and_true] at e9
  first | subst e9 | cases e9
  obtain ⟨e10,b_1001⟩:=r10
  try simp only [List.cons.injEq,and_true] at e10
  first | subst e10 | cases e10
  obtain ⟨e11,b_1101⟩:=r11
  try simp only [List.cons.injEq,and_true] at e11
  first | subst e11 | cases e11
  refine ⟨GFrame.mk a0 a1 a2 a3 a4 a5 a6 a7 a8 a9 a10 a11,⟨A_601,n_602,c_603,A_801,n_802,c_803,A_901,n_902,c_903,rfl,b_1,⟨b_101,b_102⟩,b_201,⟨b_202,b_203⟩,b_301,b_401,⟨b_402,b_403⟩,b_501,⟨b_502,b_503⟩,hl_604,b_701,hl_804,hl_904,b_1001,b_1101⟩,?_⟩
  have hz:zFr (GFrame.mk a0 a1 a2 a3 a4 a5 a6 a7 a8 a9 a10 a11) = (zL zSt) a6 + (zL List.length) a8 + (zL zIt) a9:=rfl
  rw [hz]; omega
end Go.Proofs.Ytlfihfmmhhcigaa

set_option linter.unusedVariables false
set_option linter.unusedSimpArgs false
namespace Go.Proofs.Ytlfihfmmhhcigaa
open Go Go.FM Go.Proofs
set_option maxRecDepth 100000
theorem mixed:Try.prog.follows .mixedOrders = true:=by kernel_rfl
theorem inf3:Inf Try.prog 3 (.int .i64 0) 1 8:=Inf.mk (by kernel_rfl)
theorem inf4:Inf Try.prog 4 (.bool false) 1 1:=Inf.mk (by kernel_rfl)
theorem inf5:Inf Try.prog 5 (.int .u8 0) 1 1:=Inf.mk (by kernel_rfl)
theorem inf22:Inf Try.prog 22 (.int .u64 0) 1 8:=Inf.mk (by kernel_rfl)
theorem inf24:Inf Try.prog 24 (.agg #[.int .u64 0,.int .i64 0]) 2 16:=Inf.mk (by kernel_rfl)
theorem inf25:Inf Try.prog 25 (.int .u16 0) 1 2:=Inf.mk (by kernel_rfl)
theorem inf26:Inf Try.prog 26 (.slice none 0 0) 1 24:=Inf.mk (by kernel_rfl)
theorem inf27:Inf Try.prog 27 (.slice none 0 0) 1 24:=Inf.mk (by kernel_rfl)
theorem inf28:Inf Try.prog 28 (.slice none 0 0) 1 24:=Inf.mk (by kernel_rfl)
theorem inf30:Inf Try.prog 30 (.agg #[.int .u8 0,.int .i64 0,.int .u64 0,.int .i64 0,.int .u16 0,.int .u64 0,.int .i64 0,.int .u64 0,.int .i64 0,.slice none 0 0,.int .u64 0,.slice none 0 0,.slice none 0 0,.int .u64 0,.int .u64 0]) 15 168:=Inf.mk (by kernel_rfl)
theorem inf33:Inf Try.prog 33 (.slice none 0 0) 1 24:=Inf.mk (by kernel_rfl)
theorem inf49:Inf Try.prog 49 (.agg #[.int .i64 0,.slice none 0 0]) 2 32:=Inf.mk (by kernel_rfl)
theorem inf52:Inf Try.prog 52 (.agg #[.int .u64 0,.int .i64 0,.int .i64 0,.slice none 0 0]) 4 48:=Inf.mk (by kernel_rfl)
theorem inf58:Inf Try.prog 58 (.agg #[.slice none 0 0,.bool false]) 2 32:=Inf.mk (by kernel_rfl)
theorem inf95:Inf Try.prog 95 (.agg #[.int .u8 0,.int .u8 0,.int .u8 0,.int .u8 0]) 4 4:=Inf.mk (by kernel_rfl)
theorem inf98:Inf Try.prog 98 (.agg #[.slice none 0 0,.bool false]) 2 32:=Inf.mk (by kernel_rfl)
theorem sc3:scalarT Try.prog 3 = true:=by kernel_rfl
theorem ld3 {N:Nat} {ρ:Nat → Value} {w:World} {ty:Nat} {x:Operand} {ad:Addr} {v:Value} (hx:Ev N ρ x (.pointer (some ad))) (hc:w.cell? ad = some v):Ex Try.prog N ρ w (.load 3 x) ty v w:=x_load sc3 hx hc
theorem sc4:scalarT Try.prog 4 = true:=by kernel_rfl
theorem ld4 {N:Nat} {ρ:Nat → Value} {w:World} {ty:Nat} {x:Operand} {ad:Addr} {v:Value} (hx:Ev N ρ x (.pointer (some ad))) (hc:w.cell? ad = some v):Ex Try.prog N ρ w (.load 4 x) ty v w:=x_load sc4 hx hc
theorem sto4 {N:Nat} {ρ:Nat → Value} {H:Hp} {w:World} {L:List Res} {g T ty i:Nat} {x y:Operand} {cs cs':List Value} {v:Value} (h:St H w (obj g T cs::L)) (hx:Ev N ρ x (.pointer (some ⟨g,i,none⟩))) (hy:Ev N ρ y v) (hsz:v.cells.size = 1) (hl:i + 1 ≤ cs.length) (h1:∀ u ∈ v.cells.toList,u.oneCell' = true) (hsp:splice cs i v.cells.toList = cs'):∃ w',Ex0 Try.prog N ρ w (.store 4 x y) ty w'∧St H w' (obj g T cs'::L):=by
  obtain ⟨i0,e1,_,e3,_⟩:=inf4
  exact m_store e1 h hx hy (by rw [e3]; exact hsz) (by rw [e3]; exact hl) h1 hsp
theorem sc5:scalarT Try.prog 5 = true:=by kernel_rfl
theorem ld5 {N:Nat} {ρ:Nat → Value} {w:World} {ty:Nat} {x:Operand} {ad:Addr} {v:Value} (hx:Ev N ρ x (.pointer (some ad))) (hc:w.cell? ad = some v):Ex Try.prog N ρ w (.load 5 x) ty v w:=x_load sc5 hx hc
theorem sc22:scalarT Try.prog 22 = true:=by kernel_rfl
theorem ld22 {N:Nat} {ρ:Nat → Value} {w:World} {ty:Nat} {x:Operand} {ad:Addr} {v:Value} (hx:Ev N ρ x (.pointer (some ad))) (hc:w.cell? ad = some v):Ex Try.prog N ρ w (.load 22 x) ty v w:=x_load sc22 hx hc
theorem sto22 {N:Nat} {ρ:Nat → Value} {H:Hp} {w:World} {L:List Res} {g T ty i:Nat} {x y:Operand} {cs cs':List Value} {v:Value} (h:St H w (obj g T cs::L)) (hx:Ev N ρ x (.pointer (some ⟨g,i,none⟩))) (hy:Ev N ρ y v) (hsz:v.cells.size = 1) (hl:i + 1 ≤ cs.length) (h1:∀ u ∈ v.cells.toList,u.oneCell' = true) (hsp:splice cs i v.cells.toList = cs'):∃ w',Ex0 Try.prog N ρ w (.store 22 x y) ty w'∧St H w' (obj g T cs'::L):=by
  obtain ⟨i0,e1,_,e3,_⟩:=inf22
  exact m_store e1 h hx hy (by rw [e3]; exact hsz) (by rw [e3]; exact hl) h1 hsp
theorem ag24:aggT Try.prog 24 = true:=by kernel_rfl
theorem ld24 {N:Nat} {ρ:Nat → Value} {w:World} {ty:Nat} {x:Operand} {ad:Addr} {cs:List Value} (hx:Ev N ρ x (.pointer (some ad))) (hc:At w ad cs) (hl:cs.length = 2):Ex Try.prog N ρ w (.load 24 x) ty (.agg cs.toArray) w:=by
  obtain ⟨i0,h1,_,h3,_⟩:=inf24
  exact x_loadA ag24 h1 hx hc (by rw [h3]; exact hl)
theorem lv24 {w:World} {ad:Addr} {cs:List Value} (hc:At w ad cs) (hl:cs.length = 2):(loadVar 24 ad).run Try.prog w = .ok (.agg cs.toArray) w:=by
  obtain ⟨i0,h1,_,h3,_⟩:=inf24
  exact run_loadVar_t ag24 h1 hc (by rw [h3]; exact hl)
theorem sto24 {N:Nat} {ρ:Nat → Value} {H:Hp} {w:World} {L:List Res} {g T ty i:Nat} {x y:Operand} {cs cs':List Value} {v:Value} (h:St H w (obj g T cs::L)) (hx:Ev N ρ x (.pointer (some ⟨g,i,none⟩))) (hy:Ev N ρ y v) (hsz:v.cells.size = 2) (hl:i + 2 ≤ cs.length) (h1:∀ u ∈ v.cells.toList,u.oneCell' = true) (hsp:splice cs i v.cells.toList = cs'):∃ w',Ex0 Try.prog N ρ w (.store 24 x y) ty w'∧St H w' (obj g T cs'::L):=by
  obtain ⟨i0,e1,_,e3,_⟩:=inf24
  exact m_store e1 h hx hy (by rw [e3]; exact hsz) (by rw [e3]; exact hl) h1 hsp
theorem al24 {N:Nat} {ρ:Nat → Value} {H:Hp} {w:World} {L:List Res} {ty:Nat} {cs:List Value} (h:St H w L) (hv:(.agg #[.int .u64 0,.int .i64 0]:Value).cells = cs.toArray):∃ v' w',Ex Try.prog N ρ w (.alloc 24) ty v' w'∧∃ g,v' = .pointer (some ⟨g,0,none⟩)∧St H w' (obj g 24 cs::L):=by
  obtain ⟨i0,e1,e2,_,_⟩:=inf24
  exact m_alloc e1 e2 h hv
theorem sc25:scalarT Try.prog 25 = true:=by kernel_rfl
theorem ld25 {N:Nat} {ρ:Nat → Value} {w:World} {ty:Nat} {x:Operand} {ad:Addr} {v:Value} (hx:Ev N ρ x (.pointer (some ad))) (hc:w.cell? ad = some v):Ex Try.prog N ρ w (.load 25 x) ty v w:=x_load sc25 hx hc
theorem sto25 {N:Nat} {ρ:Nat → Value} {H:Hp} {w:World} {L:List Res} {g T ty i:Nat} {x y:Operand} {cs cs':List Value} {v:Value} (h:St H w (obj g T cs::L)) (hx:Ev N ρ x (.pointer (some ⟨g,i,none⟩))) (hy:Ev N ρ y v) (hsz:v.cells.size = 1) (hl:i + 1 ≤ cs.length) (h1:∀ u ∈ v.cells.toList,u.oneCell' = true) (hsp:splice cs i v.cells.toList = cs'):∃ w',Ex0 Try.prog N ρ w (.store 25 x y) ty w'∧St H w' (obj g T cs'::L):=by
  obtain ⟨i0,e1,_,e3,_⟩:=inf25
  exact m_store e1 h hx hy (by rw [e3]; exact hsz) (by rw [e3]; exact hl) h1 hsp
theorem sc26:scalarT Try.prog 26 = true:=by kernel_rfl
theorem ld26 {N:Nat} {ρ:Nat → Value} {w:World} {ty:Nat} {x:Operand} {ad:Addr} {v:Value} (hx:Ev N ρ x (.pointer (some ad))) (hc:w.cell? ad = some v):Ex Try.prog N ρ w (.load 26 x) ty v w:=x_load sc26 hx hc
theorem sto26 {N:Nat} {ρ:Nat → Value} {H:Hp} {w:World} {L:List Res} {g T ty i:Nat} {x y:Operand} {cs cs':List Value} {v:Value} (h:St H w (obj g T cs::L)) (hx:Ev N ρ x (.pointer (some ⟨g,i,none⟩))) (hy:Ev N ρ y v) (hsz:v.cells.size = 1) (hl:i + 1 ≤ cs.length) (h1:∀ u ∈ v.cells.toList,u.oneCell' = true) (hsp:splice cs i v.cells.toList = cs'):∃ w',Ex0 Try.prog N ρ w (.store 26 x y) ty w'∧St H w' (obj g T cs'::L):=by
  obtain ⟨i0,e1,_,e3,_⟩:=inf26
  exact m_store e1 h hx hy (by rw [e3]; exact hsz) (by rw [e3]; exact hl) h1 hsp
theorem sc27:scalarT Try.prog 27 = true:=by kernel_rfl
theorem ld27 {N:Nat} {ρ:Nat → Value} {w:World} {ty:Nat} {x:Operand} {ad:Addr} {v:Value} (hx:Ev N ρ x (.pointer (some ad))) (hc:w.cell? ad = some v):Ex Try.prog N ρ w (.load 27 x) ty v w:=x_load sc27 hx hc
theorem sto27 {N:Nat} {ρ:Nat → Value} {H:Hp} {w:World} {L:List Res} {g T ty i:Nat} {x y:Operand} {cs cs':List Value} {v:Value} (h:St H w (obj g T cs::L)) (hx:Ev N ρ x (.pointer (some ⟨g,i,none⟩))) (hy:Ev N ρ y v) (hsz:v.cells.size = 1) (hl:i + 1 ≤ cs.length) (h1:∀ u ∈ v.cells.toList,u.oneCell' = true) (hsp:splice cs i v.cells.toList = cs'):∃ w',Ex0 Try.prog N ρ w (.store 27 x y) ty w'∧St H w' (obj g T cs'::L):=by
  obtain ⟨i0,e1,_,e3,_⟩:=inf27
  exact m_store e1 h hx hy (by rw [e3]; exact hsz) (by rw [e3]; exact hl) h1 hsp
theorem sc28:scalarT Try.prog 28 = true:=by kernel_rfl
theorem ld28 {N:Nat} {ρ:Nat → Value} {w:World} {ty:Nat} {x:Operand} {ad:Addr} {v:Value} (hx:Ev N ρ x (.pointer (some ad))) (hc:w.cell? ad = some v):Ex Try.prog N ρ w (.load 28 x) ty v w:=x_load sc28 hx hc
theorem sto28 {N:Nat} {ρ:Nat → Value} {H:Hp} {w:World} {L:List Res} {g T ty i:Nat} {x y:Operand} {cs cs':List Value} {v:Value} (h:St H w (obj g T cs::L)) (hx:Ev N ρ x (.pointer (some ⟨g,i,none⟩))) (hy:Ev N ρ y v) (hsz:v.cells.size = 1) (hl:i + 1 ≤ cs.length) (h1:∀ u ∈ v.cells.toList,u.oneCell' = true) (hsp:splice cs i v.cells.toList = cs'):∃ w',Ex0 Try.prog N ρ w (.store 28 x y) ty w'∧St H w' (obj g T cs'::L):=by
  obtain ⟨i0,e1,_,e3,_⟩:=inf28
  exact m_store e1 h hx hy (by rw [e3]; exact hsz) (by rw [e3]; exact hl) h1 hsp
theorem ag30:aggT Try.prog 30 = true:=by kernel_rfl
theorem ld30 {N:Nat} {ρ:Nat → Value} {w:World} {ty:Nat} {x:Operand} {ad:Addr} {cs:List Value} (hx:Ev N ρ x (.pointer (some ad))) (hc:At w ad cs) (hl:cs.length = 15):Ex Try.prog N ρ w (.load 30 x) ty (.agg cs.toArray) w:=by
  obtain ⟨i0,h1,_,h3,_⟩:=inf30
  exact x_loadA ag30 h1 hx hc (by rw [h3]; exact hl)
theorem lv30 {w:World} {ad:Addr} {cs:List Value} (hc:At w ad cs) (hl:cs.length = 15):(loadVar 30 ad).run Try.prog w = .ok (.agg cs.toArray) w:=by
  obtain ⟨i0,h1,_,h3,_⟩:=inf30
  exact run_loadVar_t ag30 h1 hc (by rw [h3]; exact hl)
theorem sto30 {N:Nat} {ρ:Nat → Value} {H:Hp} {w:World} {L:List Res} {g T ty i:Nat} {x y:Operand} {cs cs':List Value} {v:Value} (h:St H w (obj g T cs::L)) (hx:Ev N ρ x (.pointer (some ⟨g,i,none⟩))) (hy:Ev N ρ y v) (hsz:v.cells.size = 15) (hl:i + 15 ≤ cs.length) (h1:∀ u ∈ v.cells.toList,u.oneCell' = true) (hsp:splice cs i v.cells.toList = cs'):∃ w',Ex0 Try.prog N ρ w (.store 30 x y) ty w'∧St H w' (obj g T cs'::L):=by
  obtain ⟨i0,e1,_,e3,_⟩:=inf30
  exact m_store e1 h hx hy (by rw [e3]; exact hsz) (by rw [e3]; exact hl) h1 hsp
theorem al30 {N:Nat} {ρ:Nat → Value} {H:Hp} {w:World} {L:List Res} {ty:Nat} {cs:List Value} (h:St H w L) (hv:(.agg #[.int .u8 0,.int .i64 0,.int .u64 0,.int .i64 0,.int .u16 0,.int .u64 0,.int .i64 0,.int .u64 0,.int .i64 0,.slice none 0 0,.int .u64 0,.slice none 0 0,.slice none 0 0,.int .u64 0,.int .u64 0]:Value).cells = cs.toArray):∃ v' w',Ex Try.prog N ρ w (.alloc 30) ty v' w'∧∃ g,v' = .pointer (some ⟨g,0,none⟩)∧St H w' (obj g 30 cs::L):=by
  obtain ⟨i0,e1,e2,_,_⟩:=inf30
  exact m_alloc e1 e2 h hv
theorem sc33:scalarT Try.prog 33 = true:=by kernel_rfl
theorem ld33 {N:Nat} {ρ:Nat → Value} {w:World} {ty:Nat} {x:Operand} {ad:Addr} {v:Value} (hx:Ev N ρ x (.pointer (some ad))) (hc:w.cell? ad = some v):Ex Try.prog N ρ w (.load 33 x) ty v w:=x_load sc33 hx hc
theorem sto33 {N:Nat} {ρ:Nat → Value} {H:Hp} {w:World} {L:List Res} {g T ty i:Nat} {x y:Operand} {cs cs':List Value} {v:Value} (h:St H w (obj g T cs::L)) (hx:Ev N ρ x (.pointer (some ⟨g,i,none⟩))) (hy:Ev N ρ y v) (hsz:v.cells.size = 1) (hl:i + 1 ≤ cs.length) (h1:∀ u ∈ v.cells.toList,u.oneCell' = true) (hsp:splice cs i v.cells.toList = cs'):∃ w',Ex0 Try.prog N ρ w (.store 33 x y) ty w'∧St H w' (obj g T cs'::L):=by
  obtain ⟨i0,e1,_,e3,_⟩:=inf33
  exact m_store e1 h hx hy (by rw [e3]; exact hsz) (by rw [e3]; exact hl) h1 hsp
theorem ag49:aggT Try.prog 49 = true:=by kernel_rfl
theorem ld49 {N:Nat} {ρ:Nat → Value} {w:World} {ty:Nat} {x:Operand} {ad:Addr} {cs:List Value} (hx:Ev N ρ x (.pointer (some ad))) (hc:At w ad cs) (hl:cs.length = 2):Ex Try.prog N ρ w (.load 49 x) ty (.agg cs.toArray) w:=by
  obtain ⟨i0,h1,_,h3,_⟩:=inf49
  exact x_loadA ag49 h1 hx hc (by rw [h3]; exact hl)
theorem sto49 {N:Nat} {ρ:Nat → Value} {H:Hp} {w:World} {L:List Res} {g T ty i:Nat} {x y:Operand} {cs cs':List Value} {v:Value} (h:St H w (obj g T cs::L)) (hx:Ev N ρ x (.pointer (some ⟨g,i,none⟩))) (hy:Ev N ρ y v) (hsz:v.cells.size = 2) (hl:i + 2 ≤ cs.length) (h1:∀ u ∈ v.cells.toList,u.oneCell' = true) (hsp:splice cs i v.cells.toList = cs'):∃ w',Ex0 Try.prog N ρ w (.store 49 x y) ty w'∧St H w' (obj g T cs'::L):=by
  obtain ⟨i0,e1,_,e3,_⟩:=inf49
  exact m_store e1 h hx hy (by rw [e3]; exact hsz) (by rw [e3]; exact hl) h1 hsp
theorem al49 {N:Nat} {ρ:Nat → Value} {H:Hp} {w:World} {L:List Res} {ty:Nat} {cs:List Value} (h:St H w L) (hv:(.agg #[.int .i64 0,.slice none 0 0]:Value).cells = cs.toArray):∃ v' w',Ex Try.prog N ρ w (.alloc 49) ty v' w'∧∃ g,v' = .pointer (some ⟨g,0,none⟩)∧St H w' (obj g 49 cs::L):=by
  obtain ⟨i0,e1,e2,_,_⟩:=inf49
  exact m_alloc e1 e2 h hv
theorem ag52:aggT Try.prog 52 = true:=by kernel_rfl
theorem ld52 {N:Nat} {ρ:Nat → Value} {w:World} {ty:Nat} {x:Operand} {ad:Addr} {cs:List Value} (hx:Ev N ρ x (.pointer (some ad))) (hc:At w ad cs) (hl:cs.length = 4):Ex Try.prog N ρ w (.load 52 x) ty (.agg cs.toArray) w:=by
  obtain ⟨i0,h1,_,h3,_⟩:=inf52
  exact x_loadA ag52 h1 hx hc (by rw [h3]; exact hl)
theorem sto52 {N:Nat} {ρ:Nat → Value} {H:Hp} {w:World} {L:List Res} {g T ty i:Nat} {x y:Operand} {cs cs':List Value} {v:Value} (h:St H w (obj g T cs::L)) (hx:Ev N ρ x (.pointer (some ⟨g,i,none⟩))) (hy:Ev N ρ y v) (hsz:v.cells.size = 4) (hl:i + 4 ≤ cs.length) (h1:∀ u ∈ v.cells.toList,u.oneCell' = true) (hsp:splice cs i v.cells.toList = cs'):∃ w',Ex0 Try.prog N ρ w (.store 52 x y) ty w'∧St H w' (obj g T cs'::L):=by
  obtain ⟨i0,e1,_,e3,_⟩:=inf52
  exact m_store e1 h hx hy (by rw [e3]; exact hsz) (by rw [e3]; exact hl) h1 hsp
theorem al52 {N:Nat} {ρ:Nat → Value} {H:Hp} {w:World} {L:List Res} {ty:Nat} {cs:List Value} (h:St H w L) (hv:(.agg #[.int .u64 0,.int .i64 0,.int .i64 0,.slice none 0 0]:Value).cells = cs.toArray):∃ v' w',Ex Try.prog N ρ w (.alloc 52) ty v' w'∧∃ g,v' = .pointer (some ⟨g,0,none⟩)∧St H w' (obj g 52 cs::L):=by
  obtain ⟨i0,e1,e2,_,_⟩:=inf52
  exact m_alloc e1 e2 h hv
theorem ag95:aggT Try.prog 95 = true:=by kernel_rfl
theorem ld95 {N:Nat} {ρ:Nat → Value} {w:World} {ty:Nat} {x:Operand} {ad:Addr} {cs:List Value} (hx:Ev N ρ x (.pointer (some ad))) (hc:At w ad cs) (hl:cs.length = 4):Ex Try.prog N ρ w (.load 95 x) ty (.agg cs.toArray) w:=by
  obtain ⟨i0,h1,_,h3,_⟩:=inf95
  exact x_loadA ag95 h1 hx hc (by rw [h3]; exact hl)
theorem lv95 {w:World} {ad:Addr} {cs:List Value} (hc:At w ad cs) (hl:cs.length = 4):(loadVar 95 ad).run Try.prog w = .ok (.agg cs.toArray) w:=by
  obtain ⟨i0,h1,_,h3,_⟩:=inf95
  exact run_loadVar_t ag95 h1 hc (by rw [h3]; exact hl)
theorem sto95 {N:Nat} {ρ:Nat → Value} {H:Hp} {w:World} {L:List Res} {g T ty i:Nat} {x y:Operand} {cs cs':List Value} {v:Value} (h:St H w (obj g T cs::L)) (hx:Ev N ρ x (.pointer (some ⟨g,i,none⟩))) (hy:Ev N ρ y v) (hsz:v.cells.size = 4) (hl:i + 4 ≤ cs.length) (h1:∀ u ∈ v.cells.toList,u.oneCell' = true) (hsp:splice cs i v.cells.toList = cs'):∃ w',Ex0 Try.prog N ρ w (.store 95 x y) ty w'∧St H w' (obj g T cs'::L):=by
  obtain ⟨i0,e1,_,e3,_⟩:=inf95
  exact m_store e1 h hx hy (by rw [e3]; exact hsz) (by rw [e3]; exact hl) h1 hsp
theorem al95 {N:Nat} {ρ:Nat → Value} {H:Hp} {w:World} {L:List Res} {ty:Nat} {cs:List Value} (h:St H w L) (hv:(.agg #[.int .u8 0,.int .u8 0,.int .u8 0,.int .u8 0]:Value).cells = cs.toArray):∃ v' w',Ex Try.prog N ρ w (.alloc 95) ty v' w'∧∃ g,v' = .pointer (some ⟨g,0,none⟩)∧St H w' (obj g 95 cs::L):=by
  obtain ⟨i0,e1,e2,_,_⟩:=inf95
  exact m_alloc e1 e2 h hv
theorem fa24_0 {N:Nat} {ρ:Nat → Value} {w:World} {ty b o:Nat} {x:Operand} (hx:Ev N ρ x (.pointer (some ⟨b,o,none⟩))):Ex Try.prog N ρ w (.fieldAddr 24 x 0) ty (.pointer (some ⟨b,o + 0,none⟩)) w:=by
  obtain ⟨i0,h1,_,h3,_⟩:=inf22
  have:=x_fieldAddr (ty:=ty) (w:=w) Try.underlying24 (f:=0) rfl h1 (by rw [h3]; decide) hx
  rwa [add_none] at this
theorem fa24_1 {N:Nat} {ρ:Nat → Value} {w:World} {ty b o:Nat} {x:Operand} (hx:Ev N ρ x (.pointer (some ⟨b,o,none⟩))):Ex Try.prog N ρ w (.fieldAddr 24 x 1) ty (.pointer (some ⟨b,o + 1,none⟩)) w:=by
  obtain ⟨i0,h1,_,h3,_⟩:=inf3
  have:=x_fieldAddr (ty:=ty) (w:=w) Try.underlying24 (f:=1) rfl h1 (by rw [h3]; decide) hx
  rwa [add_none] at this
theorem fa30_0 {N:Nat} {ρ:Nat → Value} {w:World} {ty b o:Nat} {x:Operand} (hx:Ev N ρ x (.pointer (some ⟨b,o,none⟩))):Ex Try.prog N ρ w (.fieldAddr 30 x 0) ty (.pointer (some ⟨b,o + 0,none⟩)) w:=by
  obtain ⟨i0,h1,_,h3,_⟩:=inf5
  have:=x_fieldAddr (ty:=ty) (w:=w) Try.underlying30 (f:=0) rfl h1 (by rw [h3]; decide) hx
  rwa [add_none] at this
theorem fa30_1 {N:Nat} {ρ:Nat → Value} {w:World} {ty b o:Nat} {x:Operand} (hx:Ev N ρ x (.pointer (some ⟨b,o,none⟩))):Ex Try.prog N ρ w (.fieldAddr 30 x 1) ty (.pointer (some ⟨b,o + 1,none⟩)) w:=by
  obtain ⟨i0,h1,_,h3,_⟩:=inf3
  have:=x_fieldAddr (ty:=ty) (w:=w) Try.underlying30 (f:=1) rfl h1 (by rw [h3]; decide) hx
  rwa [add_none] at this
theorem fa30_2 {N:Nat} {ρ:Nat → Value} {w:World} {ty b o:Nat} {x:Operand} (hx:Ev N ρ x (.pointer (some ⟨b,o,none⟩))):Ex Try.prog N ρ w (.fieldAddr 30 x 2) ty (.pointer (some ⟨b,o + 2,none⟩)) w:=by
  obtain ⟨i0,h1,_,h3,_⟩:=inf24
  have:=x_fieldAddr (ty:=ty) (w:=w) Try.underlying30 (f:=2) rfl h1 (by rw [h3]; decide) hx
  rwa [add_none] at this
theorem fa30_3 {N:Nat} {ρ:Nat → Value} {w:World} {ty b o:Nat} {x:Operand} (hx:Ev N ρ x (.pointer (some ⟨b,o,none⟩))):Ex Try.prog N ρ w (.fieldAddr 30 x 3) ty (.pointer (some ⟨b,o + 4,none⟩)) w:=by
  obtain ⟨i0,h1,_,h3,_⟩:=inf25
  have:=x_fieldAddr (ty:=ty) (w:=w) Try.underlying30 (f:=3) rfl h1 (by rw [h3]; decide) hx
  rwa [add_none] at this
theorem fa30_4 {N:Nat} {ρ:Nat → Value} {w:World} {ty b o:Nat} {x:Operand} (hx:Ev N ρ x (.pointer (some ⟨b,o,none⟩))):Ex Try.prog N ρ w (.fieldAddr 30 x 4) ty (.pointer (some ⟨b,o + 5,none⟩)) w:=by
  obtain ⟨i0,h1,_,h3,_⟩:=inf24
  have:=x_fieldAddr (ty:=ty) (w:=w) Try.underlying30 (f:=4) rfl h1 (by rw [h3]; decide) hx
  rwa [add_none] at this
theorem fa30_5 {N:Nat} {ρ:Nat → Value} {w:World} {ty b o:Nat} {x:Operand} (hx:Ev N ρ x (.pointer (some ⟨b,o,none⟩))):Ex Try.prog N ρ w (.fieldAddr 30 x 5) ty (.pointer (some ⟨b,o + 7,none⟩)) w:=by
  obtain ⟨i0,h1,_,h3,_⟩:=inf24
  have:=x_fieldAddr (ty:=ty) (w:=w) Try.underlying30 (f:=5) rfl h1 (by rw [h3]; decide) hx
  rwa [add_none] at this
theorem fa30_6 {N:Nat} {ρ:Nat → Value} {w:World} {ty b o:Nat} {x:Operand} (hx:Ev N ρ x (.pointer (some ⟨b,o,none⟩))):Ex Try.prog N ρ w (.fieldAddr 30 x 6) ty (.pointer (some ⟨b,o + 9,none⟩)) w:=by
  obtain ⟨i0,h1,_,h3,_⟩:=inf26
  have:=x_fieldAddr (ty:=ty) (w:=w) Try.underlying30 (f:=6) rfl h1 (by rw [h3]; decide) hx
  rwa [add_none] at this
theorem fa30_7 {N:Nat} {ρ:Nat → Value} {w:World} {ty b o:Nat} {x:Operand} (hx:Ev N ρ x (.pointer (some ⟨b,o,none⟩))):Ex Try.prog N ρ w (.fieldAddr 30 x 7) ty (.pointer (some ⟨b,o + 10,none⟩)) w:=by
  obtain ⟨i0,h1,_,h3,_⟩:=inf22
  have:=x_fieldAddr (ty:=ty) (w:=w) Try.underlying30 (f:=7) rfl h1 (by rw [h3]; decide) hx
  rwa [add_none] at this
theorem fa30_8 {N:Nat} {ρ:Nat → Value} {w:World} {ty b o:Nat} {x:Operand} (hx:Ev N ρ x (.pointer (some ⟨b,o,none⟩))):Ex Try.prog N ρ w (.fieldAddr 30 x 8) ty (.pointer (some ⟨b,o + 11,none⟩)) w:=by
  obtain ⟨i0,h1,_,h3,_⟩:=inf27
  have:=x_fieldAddr (ty:=ty) (w:=w) Try.underlying30 (f:=8) rfl h1 (by rw [h3]; decide) hx
  rwa [add_none] at this
theorem fa30_9 {N:Nat} {ρ:Nat → Value} {w:World} {ty b o:Nat} {x:Operand} (hx:Ev N ρ x (.pointer (some ⟨b,o,none⟩))):Ex Try.prog N ρ w (.fieldAddr 30 x 9) ty (.pointer (some ⟨b,o + 12,none⟩)) w:=by
  obtain ⟨i0,h1,_,h3,_⟩:=inf28
  have:=x_fieldAddr (ty:=ty) (w:=w) Try.underlying30 (f:=9) rfl h1 (by rw [h3]; decide) hx
  rwa [add_none] at this
theorem fa30_10 {N:Nat} {ρ:Nat → Value} {w:World} {ty b o:Nat} {x:Operand} (hx:Ev N ρ x (.pointer (some ⟨b,o,none⟩))):Ex Try.prog N ρ w (.fieldAddr 30 x 10) ty (.pointer (some ⟨b,o + 13,none⟩)) w:=by
  obtain ⟨i0,h1,_,h3,_⟩:=inf22
  have:=x_fieldAddr (ty:=ty) (w:=w) Try.underlying30 (f:=10) rfl h1 (by rw [h3]; decide) hx
  rwa [add_none] at this
theorem fa30_11 {N:Nat} {ρ:Nat → Value} {w:World} {ty b o:Nat} {x:Operand} (hx:Ev N ρ x (.pointer (some ⟨b,o,none⟩))):Ex Try.prog N ρ w (.fieldAddr 30 x 11) ty (.pointer (some ⟨b,o + 14,none⟩)) w:=by
  obtain ⟨i0,h1,_,h3,_⟩:=inf22
  have:=x_fieldAddr (ty:=ty) (w:=w) Try.underlying30 (f:=11) rfl h1 (by rw [h3]; decide) hx
  rwa [add_none] at this
theorem fa49_0 {N:Nat} {ρ:Nat → Value} {w:World} {ty b o:Nat} {x:Operand} (hx:Ev N ρ x (.pointer (some ⟨b,o,none⟩))):Ex Try.prog N ρ w (.fieldAddr 49 x 0) ty (.pointer (some ⟨b,o + 0,none⟩)) w:=by
  obtain ⟨i0,h1,_,h3,_⟩:=inf3
  have:=x_fieldAddr (ty:=ty) (w:=w) Try.underlying49 (f:=0) rfl h1 (by rw [h3]; decide) hx
  rwa [add_none] at this
theorem fa49_1 {N:Nat} {ρ:Nat → Value} {w:World} {ty b o:Nat} {x:Operand} (hx:Ev N ρ x (.pointer (some ⟨b,o,none⟩))):Ex Try.prog N ρ w (.fieldAddr 49 x 1) ty (.pointer (some ⟨b,o + 1,none⟩)) w:=by
  obtain ⟨i0,h1,_,h3,_⟩:=inf33
  have:=x_fieldAddr (ty:=ty) (w:=w) Try.underlying49 (f:=1) rfl h1 (by rw [h3]; decide) hx
  rwa [add_none] at this
theorem fa52_0 {N:Nat} {ρ:Nat → Value} {w:World} {ty b o:Nat} {x:Operand} (hx:Ev N ρ x (.pointer (some ⟨b,o,none⟩))):Ex Try.prog N ρ w (.fieldAddr 52 x 0) ty (.pointer (some ⟨b,o + 0,none⟩)) w:=by
  obtain ⟨i0,h1,_,h3,_⟩:=inf24
  have:=x_fieldAddr (ty:=ty) (w:=w) Try.underlying52 (f:=0) rfl h1 (by rw [h3]; decide) hx
  rwa [add_none] at this
theorem fa52_1 {N:Nat} {ρ:Nat → Value} {w:World} {ty b o:Nat} {x:Operand} (hx:Ev N ρ x (.pointer (some ⟨b,o,none⟩))):Ex Try.prog N ρ w (.fieldAddr 52 x 1) ty (.pointer (some ⟨b,o + 2,none⟩)) w:=by
  obtain ⟨i0,h1,_,h3,_⟩:=inf3
  have:=x_fieldAddr (ty:=ty) (w:=w) Try.underlying52 (f:=1) rfl h1 (by rw [h3]; decide) hx
  rwa [add_none] at this
theorem fa52_2 {N:Nat} {ρ:Nat → Value} {w:World} {ty b o:Nat} {x:Operand} (hx:Ev N ρ x (.pointer (some ⟨b,o,none⟩))):Ex Try.prog N ρ w (.fieldAddr 52 x 2) ty (.pointer (some ⟨b,o + 3,none⟩)) w:=by
  obtain ⟨i0,h1,_,h3,_⟩:=inf28
  have:=x_fieldAddr (ty:=ty) (w:=w) Try.underlying52 (f:=2) rfl h1 (by rw [h3]; decide) hx
  rwa [add_none] at this
theorem fa58_0 {N:Nat} {ρ:Nat → Value} {w:World} {ty b o:Nat} {x:Operand} (hx:Ev N ρ x (.pointer (some ⟨b,o,none⟩))):Ex Try.prog N ρ w (.fieldAddr 58 x 0) ty (.pointer (some ⟨b,o + 0,none⟩)) w:=by
  obtain ⟨i0,h1,_,h3,_⟩:=inf33
  have:=x_fieldAddr (ty:=ty) (w:=w) Try.underlying58 (f:=0) rfl h1 (by rw [h3]; decide) hx
  rwa [add_none] at this
theorem fa58_1 {N:Nat} {ρ:Nat → Value} {w:World} {ty b o:Nat} {x:Operand} (hx:Ev N ρ x (.pointer (some ⟨b,o,none⟩))):Ex Try.prog N ρ w (.fieldAddr 58 x 1) ty (.pointer (some ⟨b,o + 1,none⟩)) w:=by
  obtain ⟨i0,h1,_,h3,_⟩:=inf4
  have:=x_fieldAddr (ty:=ty) (w:=w) Try.underlying58 (f:=1) rfl h1 (by rw [h3]; decide) hx
  rwa [add_none] at this
theorem fa98_0 {N:Nat} {ρ:Nat → Value} {w:World} {ty b o:Nat} {x:Operand} (hx:Ev N ρ x (.pointer (some ⟨b,o,none⟩))):Ex Try.prog N ρ w (.fieldAddr 98 x 0) ty (.pointer (some ⟨b,o + 0,none⟩)) w:=by
  obtain ⟨i0,h1,_,h3,_⟩:=inf33
  have:=x_fieldAddr (ty:=ty) (w:=w) Try.underlying98 (f:=0) rfl h1 (by rw [h3]; decide) hx
  rwa [add_none] at this
theorem fa98_1 {N:Nat} {ρ:Nat → Value} {w:World} {ty b o:Nat} {x:Operand} (hx:Ev N ρ x (.pointer (some ⟨b,o,none⟩))):Ex Try.prog N ρ w (.fieldAddr 98 x 1) ty (.pointer (some ⟨b,o + 1,none⟩)) w:=by
  obtain ⟨i0,h1,_,h3,_⟩:=inf4
  have:=x_fieldAddr (ty:=ty) (w:=w) Try.underlying98 (f:=1) rfl h1 (by rw [h3]; decide) hx
  rwa [add_none] at this
theorem ix26 {N:Nat} {ρ:Nat → Value} {w:World} {ty b o n c:Nat} {A:Option Addr} {x y:Operand} {k:IntKind} {i:Int} (hx:Ev N ρ x (.slice A n c)) (hA:A = some ⟨b,o,none⟩) (hy:Ev N ρ y (.int k i)) (h0:0 ≤ i) (h1:i < n):Ex Try.prog N ρ w (.indexAddr 26 x y) ty (.pointer (some ⟨b,o + i.toNat * 4,none⟩)) w:=by
  obtain ⟨i0,e1,_,e3,_⟩:=inf52
  subst hA
  have:=x_indexAddr (ty:=ty) (w:=w) Try.underlying26 e1 hx hy h0 h1
  rwa [add_none,e3] at this
theorem ixo26 {N:Nat} {ρ:Nat → Value} {w:World} {ty b o o' n c:Nat} {A:Option Addr} {x y:Operand} {k:IntKind} {i:Int} (hx:Ev N ρ x (.slice A n c)) (hA:A = some ⟨b,o,none⟩) (hy:Ev N ρ y (.int k i)) (h0:0 ≤ i) (h1:i < n) (ho:o + i.toNat * 4 = o'):Ex Try.prog N ρ w (.indexAddr 26 x y) ty (.pointer (some ⟨b,o',none⟩)) w:=by
  subst ho
  exact ix26 hx hA hy h0 h1
theorem ix27 {N:Nat} {ρ:Nat → Value} {w:World} {ty b o n c:Nat} {A:Option Addr} {x y:Operand} {k:IntKind} {i:Int} (hx:Ev N ρ x (.slice A n c)) (hA:A = some ⟨b,o,none⟩) (hy:Ev N ρ y (.int k i)) (h0:0 ≤ i) (h1:i < n):Ex Try.prog N ρ w (.indexAddr 27 x y) ty (.pointer (some ⟨b,o + i.toNat * 1,none⟩)) w:=by
  obtain ⟨i0,e1,_,e3,_⟩:=inf33
  subst hA
  have:=x_indexAddr (ty:=ty) (w:=w) Try.underlying27 e1 hx hy h0 h1
  rwa [add_none,e3] at this
theorem ixo27 {N:Nat} {ρ:Nat → Value} {w:World} {ty b o o' n c:Nat} {A:Option Addr} {x y:Operand} {k:IntKind} {i:Int} (hx:Ev N ρ x (.slice A n c)) (hA:A = some ⟨b,o,none⟩) (hy:Ev N ρ y (.int k i)) (h0:0 ≤ i) (h1:i < n) (ho:o + i.toNat * 1 = o'):Ex Try.prog N ρ w (.indexAddr 27 x y) ty (.pointer (some ⟨b,o',none⟩)) w:=by
  subst ho
  exact ix27 hx hA hy h0 h1
theorem ix28 {N:Nat} {ρ:Nat → Value} {w:World} {ty b o n c:Nat} {A:Option Addr} {x y:Operand} {k:IntKind} {i:Int} (hx:Ev N ρ x (.slice A n c)) (hA:A = some ⟨b,o,none⟩) (hy:Ev N ρ y (.int k i)) (h0:0 ≤ i) (h1:i < n):Ex Try.prog N ρ w (.indexAddr 28 x y) ty (.pointer (some ⟨b,o + i.toNat * 2,none⟩)) w:=by
  obtain ⟨i0,e1,_,e3,_⟩:=inf49
  subst hA
  have:=x_indexAddr (ty:=ty) (w:=w) Try.underlying28 e1 hx hy h0 h1
  rwa [add_none,e3] at this
theorem ixo28 {N:Nat} {ρ:Nat → Value} {w:World} {ty b o o' n c:Nat} {A:Option Addr} {x y:Operand} {k:IntKind} {i:Int} (hx:Ev N ρ x (.slice A n c)) (hA:A = some ⟨b,o,none⟩) (hy:Ev N ρ y (.int k i)) (h0:0 ≤ i) (h1:i < n) (ho:o + i.toNat * 2 = o'):Ex Try.prog N ρ w (.indexAddr 28 x y) ty (.pointer (some ⟨b,o',none⟩)) w:=by
  subst ho
  exact ix28 hx hA hy h0 h1
theorem ix33 {N:Nat} {ρ:Nat → Value} {w:World} {ty b o n c:Nat} {A:Option Addr} {x y:Operand} {k:IntKind} {i:Int} (hx:Ev N ρ x (.slice A n c)) (hA:A = some ⟨b,o,none⟩) (hy:Ev N ρ y (.int k i)) (h0:0 ≤ i) (h1:i < n):Ex Try.prog N ρ w (.indexAddr 33 x y) ty (.pointer (some ⟨b,o + i.toNat * 1,none⟩)) w:=by
  obtain ⟨i0,e1,_,e3,_⟩:=inf5
  subst hA
  have:=x_indexAddr (ty:=ty) (w:=w) Try.underlying33 e1 hx hy h0 h1
  rwa [add_none,e3] at this
theorem ixo33 {N:Nat} {ρ:Nat → Value} {w:World} {ty b o o' n c:Nat} {A:Option Addr} {x y:Operand} {k:IntKind} {i:Int} (hx:Ev N ρ x (.slice A n c)) (hA:A = some ⟨b,o,none⟩) (hy:Ev N ρ y (.int k i)) (h0:0 ≤ i) (h1:i < n) (ho:o + i.toNat * 1 = o'):Ex Try.prog N ρ w (.indexAddr 33 x y) ty (.pointer (some ⟨b,o',none⟩)) w:=by
  subst ho
  exact ix33 hx hA hy h0 h1
theorem bl24 {N:Nat} {ρ:Nat → Value} {w:World} {ty:Nat} {parts:List (Nat × Operand)} {ps:List (Nat × Value)} {cs:List Value} (hps:Evp N ρ parts ps) (hf:fillL (([(0,1),(1,1)]:List (Nat × Nat))[·]?) [.int .u64 0,.int .i64 0] ps = some cs):Ex Try.prog N ρ w (.build 24 parts.toArray) ty (.agg cs.toArray) w :=
  x_bld (places:=[(0,1),(1,1)]) Try.underlying24 inf24 hps (by kernel_rfl) hf
theorem bl30 {N:Nat} {ρ:Nat → Value} {w:World} {ty:Nat} {parts:List (Nat × Operand)} {ps:List (Nat × Value)} {cs:List Value} (hps:Evp N ρ parts ps) (hf:fillL (([(0,1),(1,1),(2,2),(4,1),(5,2),(7,2),(9,1),(10,1),(11,1),(12,1),(13,1),(14,1)]:List (Nat × Nat))[·]?) [.int .u8 0,.int .i64 0,.int .u64 0,.int .i64 0,.int .u16 0,.int .u64 0,.int .i64 0,.int .u64 0,.int .i64 0,.slice none 0 0,.int .u64 0,.slice none 0 0,.slice none 0 0,.int .u64 0,.int .u64 0] ps = some cs):Ex Try.prog N ρ w (.build 30 parts.toArray) ty (.agg cs.toArray) w :=
  x_bld (places:=[(0,1),(1,1),(2,2),(4,1),(5,2),(7,2),(9,1),(10,1),(11,1),(12,1),(13,1),(14,1)]) Try.underlying30 inf30 hps (by kernel_rfl) hf
theorem bl49 {N:Nat} {ρ:Nat → Value} {w:World} {ty:Nat} {parts:List (Nat × Operand)} {ps:List (Nat × Value)} {cs:List Value} (hps:Evp N ρ parts ps) (hf:fillL (([(0,1),(1,1)]:List (Nat × Nat))[·]?) [.int .i64 0,.slice none 0 0] ps = some cs):Ex Try.prog N ρ w (.build 49 parts.toArray) ty (.agg cs.toArray) w :=
  x_bld (places:=[(0,1),(1,1)]) Try.underlying49 inf49 hps (by kernel_rfl) hf
theorem bl52 {N:Nat} {ρ:Nat → Value} {w:World} {ty:Nat} {parts:List (Nat × Operand)} {ps:List (Nat × Value)} {cs:List Value} (hps:Evp N ρ parts ps) (hf:fillL (([(0,2),(2,1),(3,1)]:List (Nat × Nat))[·]?) [.int .u64 0,.int .i64 0,.int .i64 0,.slice none 0 0] ps = some cs):Ex Try.prog N ρ w (.build 52 parts.toArray) ty (.agg cs.toArray) w :=
  x_bld (places:=[(0,2),(2,1),(3,1)]) Try.underlying52 inf52 hps (by kernel_rfl) hf
theorem bl58 {N:Nat} {ρ:Nat → Value} {w:World} {ty:Nat} {parts:List (Nat × Operand)} {ps:List (Nat × Value)} {cs:List Value} (hps:Evp N ρ parts ps) (hf:fillL (([(0,1),(1,1)]:List (Nat × Nat))[·]?) [.slice none 0 0,.bool false] ps = some cs):Ex Try.prog N ρ w (.build 58 parts.toArray) ty (.agg cs.toArray) w :=
  x_bld (places:=[(0,1),(1,1)]) Try.underlying58 inf58 hps (by kernel_rfl) hf
theorem bl98 {N:Nat} {ρ:Nat → Value} {w:World} {ty:Nat} {parts:List (Nat × Operand)} {ps:List (Nat × Value)} {cs:List Value} (hps:Evp N ρ parts ps) (hf:fillL (([(0,1),(1,1)]:List (Nat × Nat))[·]?) [.slice none 0 0,.bool false] ps = some cs):Ex Try.prog N ρ w (.build 98 parts.toArray) ty (.agg cs.toArray) w :=
  x_bld (places:=[(0,1),(1,1)]) Try.underlying98 inf98 hps (by kernel_rfl) hf
theorem eqs24 (d:Nat) (w:World) (x0 y0:Int) (x1 y1:Int):(Op.equalIn (d + 2) 24 (.agg #[.int .u64 x0,.int .i64 x1]) (.agg #[.int .u64 y0,.int .i64 y1])).run Try.prog w = .ok (((x0 == y0) && ((x1 == y1) && true))) w:=by
  exact eq_struct (d:=d + 1) Try.underlying24 (by kernel_rfl) (.cons (by kernel_rfl) (part_one (by kernel_rfl) rfl) (part_one (by kernel_rfl) rfl) (eq_int' (d:=d + 0) Try.underlying22 _ _) (.cons (by kernel_rfl) (part_one (by kernel_rfl) rfl) (part_one (by kernel_rfl) rfl) (eq_int' (d:=d + 0) Try.underlying3 _ _) EqF.nil))
theorem eqg24:Try.prog.eqGuardType Try.prog.depth 24 = false:=by kernel_rfl
theorem eqg95:Try.prog.eqGuardType Try.prog.depth 95 = false:=by kernel_rfl
theorem cb10:Cb Try.prog 10:=⟨Try.f10,Try.func10,by kernel_rfl,by kernel_rfl⟩
theorem cb11:Cb Try.prog 11:=⟨Try.f11,Try.func11,by kernel_rfl,by kernel_rfl⟩
theorem cb12:Cb Try.prog 12:=⟨Try.f12,Try.func12,by kernel_rfl,by kernel_rfl⟩
theorem cb13:Cb Try.prog 13:=⟨Try.f13,Try.func13,by kernel_rfl,by kernel_rfl⟩
theorem cb14:Cb Try.prog 14:=⟨Try.f14,Try.func14,by kernel_rfl,by kernel_rfl⟩
theorem cb15:Cb Try.prog 15:=⟨Try.f15,Try.func15,by kernel_rfl,by kernel_rfl⟩
theorem cb16:Cb Try.prog 16:=⟨Try.f16,Try.func16,by kernel_rfl,by kernel_rfl⟩
theorem cb17:Cb Try.prog 17:=⟨Try.f17,Try.func17,by kernel_rfl,by kernel_rfl⟩
theorem cb19:Cb Try.prog 19:=⟨Try.f19,Try.func19,by kernel_rfl,by kernel_rfl⟩
theorem cb20:Cb Try.prog 20:=⟨Try.f20,Try.func20,by kernel_rfl,by kernel_rfl⟩
theorem cb21:Cb Try.prog 21:=⟨Try.f21,Try.func21,by kernel_rfl,by kernel_rfl⟩
theorem cb22:Cb Try.prog 22:=⟨Try.f22,Try.func22,by kernel_rfl,by kernel_rfl⟩
theorem cb23:Cb Try.prog 23:=⟨Try.f23,Try.func23,by kernel_rfl,by kernel_rfl⟩
theorem cb24:Cb Try.prog 24:=⟨Try.f24,Try.func24,by kernel_rfl,by kernel_rfl⟩
theorem cb25:Cb Try.prog 25:=⟨Try.f25,Try.func25,by kernel_rfl,by kernel_rfl⟩
theorem cb26:Cb Try.prog 26:=⟨Try.f26,Try.func26,by kernel_rfl,by kernel_rfl⟩
theorem cb27:Cb Try.prog 27:=⟨Try.f27,Try.func27,by kernel_rfl,by kernel_rfl⟩
theorem cb28:Cb Try.prog 28:=⟨Try.f28,Try.func28,by kernel_rfl,by kernel_rfl⟩
theorem cb29:Cb Try.prog 29:=⟨Try.f29,Try.func29,by kernel_rfl,by kernel_rfl⟩
theorem cb30:Cb Try.prog 30:=⟨Try.f30,Try.func30,by kernel_rfl,by kernel_rfl⟩
theorem cb31:Cb Try.prog 31:=⟨Try.f31,Try.func31,by kernel_rfl,by kernel_rfl⟩
theorem cb32:Cb Try.prog 32:=⟨Try.f32,Try.func32,by kernel_rfl,by kernel_rfl⟩
theorem cb33:Cb Try.prog 33:=⟨Try.f33,Try.func33,by kernel_rfl,by kernel_rfl⟩
theorem cb34:Cb Try.prog 34:=⟨Try.f34,Try.func34,by kernel_rfl,by kernel_rfl⟩
theorem cb35:Cb Try.prog 35:=⟨Try.f35,Try.func35,by kernel_rfl,by kernel_rfl⟩
theorem cb36:Cb Try.prog 36:=⟨Try.f36,Try.func36,by kernel_rfl,by kernel_rfl⟩
theorem cb37:Cb Try.prog 37:=⟨Try.f37,Try.func37,by kernel_rfl,by kernel_rfl⟩
theorem cb38:Cb Try.prog 38:=⟨Try.f38,Try.func38,by kernel_rfl,by kernel_rfl⟩
theorem cb39:Cb Try.prog 39:=⟨Try.f39,Try.func39,by kernel_rfl,by kernel_rfl⟩
theorem cb40:Cb Try.prog 40:=⟨Try.f40,Try.func40,by kernel_rfl,by kernel_rfl⟩
theorem cb41:Cb Try.prog 41:=⟨Try.f41,Try.func41,by kernel_rfl,by kernel_rfl⟩
theorem cb42:Cb Try.prog 42:=⟨Try.f42,Try.func42,by kernel_rfl,by kernel_rfl⟩
theorem cb43:Cb Try.prog 43:=⟨Try.f43,Try.func43,by kernel_rfl,by kernel_rfl⟩
theorem cb44:Cb Try.prog 44:=⟨Try.f44,Try.func44,by kernel_rfl,by kernel_rfl⟩
theorem cb45:Cb Try.prog 45:=⟨Try.f45,Try.func45,by kernel_rfl,by kernel_rfl⟩
theorem cb46:Cb Try.prog 46:=⟨Try.f46,Try.func46,by kernel_rfl,by kernel_rfl⟩
theorem cb54:Cb Try.prog 54:=⟨Try.f54,Try.func54,by kernel_rfl,by kernel_rfl⟩
theorem cb55:Cb Try.prog 55:=⟨Try.f55,Try.func55,by kernel_rfl,by kernel_rfl⟩
theorem cb56:Cb Try.prog 56:=⟨Try.f56,Try.func56,by kernel_rfl,by kernel_rfl⟩
theorem cb57:Cb Try.prog 57:=⟨Try.f57,Try.func57,by kernel_rfl,by kernel_rfl⟩
theorem cb58:Cb Try.prog 58:=⟨Try.f58,Try.func58,by kernel_rfl,by kernel_rfl⟩
theorem cb59:Cb Try.prog 59:=⟨Try.f59,Try.func59,by kernel_rfl,by kernel_rfl⟩
theorem cb60:Cb Try.prog 60:=⟨Try.f60,Try.func60,by kernel_rfl,by kernel_rfl⟩
theorem cb61:Cb Try.prog 61:=⟨Try.f61,Try.func61,by kernel_rfl,by kernel_rfl⟩
theorem cb62:Cb Try.prog 62:=⟨Try.f62,Try.func62,by kernel_rfl,by kernel_rfl⟩
theorem cb63:Cb Try.prog 63:=⟨Try.f63,Try.func63,by kernel_rfl,by kernel_rfl⟩
theorem cb64:Cb Try.prog 64:=⟨Try.f64,Try.func64,by kernel_rfl,by kernel_rfl⟩
theorem cb65:Cb Try.prog 65:=⟨Try.f65,Try.func65,by kernel_rfl,by kernel_rfl⟩
theorem cb66:Cb Try.prog 66:=⟨Try.f66,Try.func66,by kernel_rfl,by kernel_rfl⟩
end Go.Proofs.Ytlfihfmmhhcigaa

set_option linter.unusedVariables false
namespace Go.FM
open Go
theorem c_cut {P:Program} {Q:Exit → Act → World → Prop} {N:Nat} {ρ:Nat → Value} {w:World} {x y:Code} (I:(Nat → Value) → World → Prop) (h:x.wp P (Exit.then (fun a' w' => ∃ ρ',a' = en N ρ'∧I ρ' w') Q) (en N ρ) w)
    (k:∀ ρ w,I ρ w → y.wp P Q (en N ρ) w):(Code.seq x y).wp P Q (en N ρ) w :=
  c_seq (wp_mono h fun e a w hq => by
    cases e with
    | normal => obtain ⟨ρ',rfl,hi⟩:=hq; exact k ρ' w hi
    | _ => exact hq)
theorem yk {N:Nat} {ρ:Nat → Value} {ops:Array Oper} {j:Nat} (dj:Nat) (b:Bool) {x:Bool} (ho:(ops[j]?).bind (·.dst) = some dj) (hd:Nat.blt dj N = true) (h:x = b) (hv:ρ dj = .bool x:=by rfl):yielded ops (en N ρ).tmps j = some b:=yl ho hd (hv.trans (congrArg Value.bool h))
theorem St.p1 {H:Hp} {w:World} {r0 r1:Res} {L:List Res} (h:St H w (r0::r1::L)):St H w (r1::r0::L):=h.pick 1 rfl rfl
theorem St.p2 {H:Hp} {w:World} {r0 r1 r2:Res} {L:List Res} (h:St H w (r0::r1::r2::L)):St H w (r2::r0::r1::L):=h.pick 2 rfl rfl
theorem St.p3 {H:Hp} {w:World} {r0 r1 r2 r3:Res} {L:List Res} (h:St H w (r0::r1::r2::r3::L)):St H w (r3::r0::r1::r2::L):=h.pick 3 rfl rfl
theorem St.p4 {H:Hp} {w:World} {r0 r1 r2 r3 r4:Res} {L:List Res} (h:St H w (r0::r1::r2::r3::r4::L)):St H w (r4::r0::r1::r2::r3::L):=h.pick 4 rfl rfl
theorem St.p5 {H:Hp} {w:World} {r0 r1 r2 r3 r4 r5:Res} {L:List Res} (h:St H w (r0::r1::r2::r3::r4::r5::L)):St H w (r5::r0::r1::r2::r3::r4::L):=h.pick 5 rfl rfl
theorem St.p6 {H:Hp} {w:World} {r0 r1 r2 r3 r4 r5 r6:Res} {L:List Res} (h:St H w (r0::r1::r2::r3::r4::r5::r6::L)):St H w (r6::r0::r1::r2::r3::r4::r5::L):=h.pick 6 rfl rfl
end Go.FM

set_option linter.unusedVariables false
set_option linter.unusedSimpArgs false
namespace Go.FM
open Go
abbrev Acc:=List (List (List Nat))
section
variable {del:List (List GItem)} {i j k:Nat} {l s s0:List GItem} {x e:GItem} {acc:Acc}
end
end Go.FM

set_option linter.unusedVariables false
set_option linter.unusedSimpArgs false
namespace Go.FM
open Go
section
variable {del d:List (List GItem)} {i j k:Nat} {l s:List GItem} {x e e1 e2:GItem} {acc:Acc}
theorem next_all3 {α:Type} {p:Nat → α → Prop} {l:List α} {i:Nat} {x:α} (ha:∀ (j:Nat) (y:α),j < i → l[j]? = some y → p j y) (hx:l[i]? = some x) (hp:p i x):∀ (j:Nat) (y:α),j < i + 1 → l[j]? = some y → p j y:=by
  intro j y hj hy
  rcases Nat.lt_succ_iff_lt_or_eq.1 hj with hj | rfl
  · exact ha j y hj hy
  · rw [hx] at hy; cases hy; exact hp
end
end Go.FM

set_option linter.unusedVariables false
set_option linter.unusedSimpArgs false
namespace Go.FM
open Go
section
variable {P:Program} {Q:Exit → Act → World → Prop} {N:Nat} {ρ:Nat → Value} {H:Hp} {w w':World} {L:List Res} {t ty e e' size bytes n m c g cap o k:Nat} {v:Value} {xs news:List Value} {x y:Operand} {z:Value} {ops:Array Oper} {rest:List Oper} {pos:String} {aft:Array Edge}
end
end Go.FM
namespace Go.FM
open Go
section
variable {α:Type} {d:Kd α} {H:Hp} {w:World} {L:List Res} {e n g cap:Nat} {cs:List Value} {xs:List α}
end
end Go.FM
namespace Go.FM
end Go.FM
namespace Go.FM
end Go.FM

set_option linter.unusedVariables false
set_option linter.unusedSimpArgs false
namespace Go.FM
open Go
structure Pk where
  From:Int
  To:Int
  v:Value
  bs:List Nat
def kPk:Kd Pk where
  sz:=3
  pos:=by decide
  rep _ p cs:=cs = [.int .i64 p.From,.int .i64 p.To,p.v]∧IB p.From∧IB p.To∧RowOk 1 p.v p.bs.length (p.bs.map encB)∧Small p.bs∧p.bs.length ≤ 140737488351232
  len h:=by rw [h.1]; rfl
  one h:=by
    obtain ⟨rfl,_,_,hok,_⟩:=h
    obtain ⟨A,c,hv,_⟩:=hok.slice
    simp [Value.oneCell',hv]
  mono _ h:=h
  bts:=40
  bts0:=by decide
structure NetS where
  n:Int
  hr:List Nat
  ps:List Pk
  bi:List Int
  lost:Int
structure NetOk (H:Hp) (s:NetS) (vb:Value) (cb:List Value) (vt:Value) (ct:List Value):Prop where
  n1:1 ≤ s.n
  n16:s.n ≤ 16
  hl:s.hr.length = 16
  hb:∀ x ∈ s.hr,x < 65536
  okb:RowOk 3 vb s.ps.length cb
  hkb:kPk.toKn.rows H s.ps cb
  okt:RowOk 1 vt s.bi.length ct
  hkt:kI.toKn.rows H s.bi ct
  len:s.bi.length = s.ps.length
  max:s.ps.length ≤ 4096
  l0:0 ≤ s.lost
theorem NetOk.mono {H H':Hp} {s:NetS} {vb:Value} {cb:List Value} {vt:Value} {ct:List Value} (h:NetOk H s vb cb vt ct) (hl:H.le H'):NetOk H' s vb cb vt ct :=
  ⟨h.n1,h.n16,h.hl,h.hb,h.okb,Kn.rows_mono h.hkb hl,h.okt,Kn.rows_mono h.hkt hl,h.len,h.max,h.l0⟩
section
variable {n lost:Int} {vb vt:Value} {hr:List Nat} {i x:Nat}
end
section
variable {TN TP TI TB g g':Nat} {s s':NetS} {vb vt vb' vt':Value} {cb ct cb' ct':List Value} {L M:List Res} {H:Hp} {w:World}
end
end Go.FM
namespace Go.FM
end Go.FM
namespace Go.FM
end Go.FM
namespace Go.FM
open Go
section
variable {TN TP TI TB g:Nat} {s:NetS} {vb vt:Value} {cb ct:List Value} {L:List Res} {H:Hp} {w:World}
end
end Go.FM

set_option linter.unusedVariables false
set_option linter.unusedSimpArgs false
namespace Go.FM
open Go
section
variable {P:Program} {N:Nat} {ρ:Nat → Value} {w:World} {H:Hp} {L:List Res} {t e ty g n c:Nat} {x y:Operand} {A:Option Addr} {bs:List Nat}
end
section
variable {s:NetS} {a b k:Int} {bs:List Nat} {v:Value}
end
end Go.FM
namespace Go.FM
open Go
section
variable {s:NetS} {a b i j k:Int} {bs:List Nat} {v:Value}
end
end Go.FM
namespace Go.FM
end Go.FM
namespace Go.FM
end Go.FM

set_option linter.unusedVariables false
set_option linter.unusedSimpArgs false
namespace Go.FM
open Go
section
variable {P:Program} {N:Nat} {ρ:Nat → Value} {H:Hp} {w w':World} {L:List Res} {t ty e e' size bytes n m c g cap i:Nat} {v:Value} {xs news:List Value} {x y:Operand} {z:Value}
end
end Go.FM
namespace Go.FM
open Go
section
variable {P:Program} {N:Nat} {ρ:Nat → Value} {H:Hp} {w w':World} {L:List Res} {t ty e e2 n c:Nat} {v u:Value} {x y:Operand} {l bs:List Nat} {TB:Nat}
theorem m_appRowB (hu:P.underlying t = some (.slice e)) (hi:Inf P e (.int .u8 0) 1 1) (h:St H w (row e 1 v n (l.map encB)::L)) (ok:RowOk 1 v n (l.map encB)) (hx:Ev N ρ x v) (i:Nat) (hL:(row e 1 v n (l.map encB)::L)[i]? = some (row e2 1 u bs.length (bs.map encB))) (ok2:RowOk 1 u bs.length (bs.map encB))
    (hy:Ev N ρ y u) (hm:n + bs.length ≤ 140737488355328) :
    ∃ v' w',Ex P N ρ w (.call { callee:=.builtin .append,args:=#[x,y],argTypes:=#[t,t] }) ty v' w'∧RowOk 1 v' (n + bs.length) ((l ++ bs).map encB)∧St H w' (row e 1 v' (n + bs.length) ((l ++ bs).map encB)::L):=by
  rcases h.rowAll i hL ok2 with h1 | ⟨a,⟨c',rfl⟩,hat⟩
  · have h2:bs = []:=by simpa using h1
    subst h2
    obtain ⟨A,c',rfl,_⟩:=ok2.slice
    obtain ⟨i0,e1,_⟩:=hi
    exact ⟨v,w,m_append0 hu e1 h ok hx hy,by simpa using ok,by simpa using h⟩
  · rw [List.map_append]
    exact m_app hu hi rfl (by decide) h ok hx hy (by simp) hat (one_encB bs) (by omega) (by decide)
end
end Go.FM
namespace Go.FM
end Go.FM
namespace Go.FM
section
variable {s:NetS} {i:Int}
end
end Go.FM

set_option linter.unusedVariables false
set_option linter.unusedSimpArgs false
namespace Go.FM
open Go
section
variable {P:Program} {ops:Array Oper} {Q:Exit → Act → World → Prop} {md:Region.Mode} {S S':World → Prop} {Z F:List Nat}
def depT (md:Region.Mode) (ops:Array Oper):Nat → Nat → Nat → Bool
  | 0,_,_ => false
  | f + 1,k,j => ((ops[k]?).map fun o => (o.after.any fun e => Region.binds md e && Nat.beq e.on j) || (o.after.any fun e => Region.binds md e && depT md ops f e.on j)).getD false
def depB (md:Region.Mode) (ops:Array Oper) (k j:Nat):Bool:=depT md ops 4 k j
def Closed (md:Region.Mode) (ops:Array Oper) (listed:Array Bool):Prop:=∀ m o,ops[m]? = some o → listed.getD m false = true → ∀ e ∈ o.after,Region.binds md e = true → listed.getD e.on false = true
theorem set_mono {listed:Array Bool} {j m:Nat} (h:listed.getD m false = true):(listed.setIfInBounds j true).getD m false = true:=by
  by_cases hjm:j = m
  · subst hjm
    rcases Nat.lt_or_ge j listed.size with h' | h'
    · simp [h']
    · simp [Array.getElem?_eq_none h'] at h
  · rw [getD_set_ne false hjm]; exact h
theorem Closed.set {listed:Array Bool} {j:Nat} (hc:Closed md ops listed) (hj:j ∈ Region.ready md ops listed):Closed md ops (listed.setIfInBounds j true):=by
  obtain ⟨_,oj,hoj,hall⟩:=mem_ready.1 hj
  intro m o ho hm e he hb
  by_cases hjm:j = m
  · subst hjm
    rw [ho] at hoj; injection hoj with hoj; subst hoj
    exact set_mono (hall e he hb)
  · rw [getD_set_ne false hjm] at hm
    exact set_mono (hc m o ho hm e he hb)
theorem depT_listed {listed:Array Bool} (hc:Closed md ops listed) {j:Nat}:∀ (f k:Nat),depT md ops f k j = true → (∀ o,ops[k]? = some o → ∀ e ∈ o.after,Region.binds md e = true → listed.getD e.on false = true) → listed.getD j false = true
  | 0,_,h,_ => by cases h
  | f + 1,k,h,hl => by
    unfold depT at h
    cases ho:ops[k]? with
    | none => rw [ho] at h; cases h
    | some o =>
      rw [ho] at h
      simp only [Option.map_some,Option.getD_some,Bool.or_eq_true] at h
      rcases h with h | h
      · obtain ⟨e,he,hb⟩:=Array.any_eq_true'.1 h
        simp only [Bool.and_eq_true] at hb
        have:=hl o ho e he hb.1
        rwa [Nat.eq_of_beq_eq_true hb.2] at this
      · obtain ⟨e,he,hb⟩:=Array.any_eq_true'.1 h
        simp only [Bool.and_eq_true] at hb
        exact depT_listed hc f e.on hb.2 fun o' ho' => hc e.on o' ho' (hl o ho e he hb.1)
theorem depB_spec {k j:Nat} (h:depB md ops k j = true) {listed:Array Bool} (hc:Closed md ops listed) (hr:k ∈ Region.ready md ops listed):listed.getD j false = true:=by
  obtain ⟨_,o,ho,hall⟩:=mem_ready.1 hr
  exact depT_listed hc 4 k h fun o' ho' => by rw [ho] at ho'; injection ho' with ho'; subst ho'; exact hall
def wpG2 (P:Program) (md:Region.Mode) (ops:Array Oper) (Z:List Nat) (Q:Exit → Act → World → Prop):Nat → Array Bool → (World → Prop) → Act → World → Prop
  | 0,listed,_,a,w => Region.ready md ops listed = []∧Q .normal a w
  | fuel + 1,listed,S,a,w =>
    (Region.ready md ops listed = [] → Q .normal a w) ∧
    ∀ i ∈ Region.ready md ops listed,wpOp P ops Q i (fun a' w' => ∃ S':World → Prop,((Z.contains i = false → ∀ u,S' u → S u)∧S' w')∧wpG2 P md ops Z Q fuel (listed.setIfInBounds i true) S' a' w') a w
theorem wpAny_of_g2:∀ (fuel:Nat) (listed:Array Bool) (S:World → Prop) (a:Act) (w:World),wpG2 P md ops Z Q fuel listed S a w → wpAny P md ops Q fuel listed a w
  | 0,_,_,_,_,h => h
  | fuel + 1,_,_,_,_,h => ⟨h.1,fun i hi => wpOp_mono (fun a' w' ⟨_,_,h'⟩ => wpAny_of_g2 fuel _ _ a' w' h') (h.2 i hi)⟩
def SS (free:Bool) (S:World → Prop):World → Prop:=if free then fun _ => True else S
theorem SS.of {free:Bool} {w:World} (h:S w):SS free S w:=by cases free <;> simp [SS,h]
theorem wpG2_first {free:Bool} {i:Nat} {oi:Oper} {v:Value} (hi:ops[i]? = some oi) (hsel:∀ (j:Nat) (o:Oper) cs b,ops[j]? = some o → o.op ≠ .select cs b)
    (hQ:∀ c a w,Q (.panic c) (a.put oi.dst v) w → Q (.panic c) a w) :
    ∀ (fuel:Nat) (listed:Array Bool) (S:World → Prop) (a:Act) (w:World),Closed md ops listed → (free = false → ∀ k,Z.contains k = true → listed.getD k false = true ∨ depB md ops k i = true) →
      (∀ j oj,ops[j]? = some oj → j ≠ i → listed.getD j true = false → (∀ e ∈ oj.after,Region.binds md e = true → e.on ≠ i) → oi.apart ops oj = true) →
      i ∈ Region.ready md ops listed → YieldsIf P ops (SS free S) oi v a → S w →
      wpG2 P md ops Z Q fuel (listed.setIfInBounds i true) S (a.put oi.dst v) w → wpG2 P md ops Z Q (fuel + 1) listed S a w:=by
  intro fuel
  induction fuel with
  | zero =>
    intro listed S a w hcl hz _ hr hy hS H
    refine ⟨fun h => (by rw [h] at hr; cases hr),fun j hj => ?_⟩
    by_cases hji:j = i
    · subst hji; exact hy.wpOp hi (SS.of hS) ⟨S,⟨fun _ _ h => h,hS⟩,H⟩
    · have:=ready_mono hj hji
      rw [H.1] at this
      cases this
  | succ fuel ih =>
    intro listed S a w hcl hz hfree hr hy hS H
    refine ⟨fun h => (by rw [h] at hr; cases hr),fun j hj => ?_⟩
    by_cases hji:j = i
    · subst hji; exact hy.wpOp hi (SS.of hS) ⟨S,⟨fun _ _ h => h,hS⟩,H⟩
    · have h1:=H.2 j (ready_mono hj hji)
      obtain ⟨hjun,oj,hoj,hall⟩:=mem_ready.1 hj
      have hnot:∀ e ∈ oj.after,Region.binds md e = true → e.on ≠ i:=fun e he hb heq => by
        have h1:=hall e he hb
        have h0:=(mem_ready.1 hr).1
        rw [heq] at h1
        rcases Nat.lt_or_ge i listed.size with h' | h'
        · simp [h'] at h0 h1; rw [h0] at h1; cases h1
        · simp [Array.getElem?_eq_none h'] at h1
      have h2:=wpOp_putIf hoj (hfree j oj hoj hji hjun hnot) (fun cs b => hsel i oi cs b hi) (fun cs b => hsel j oj cs b hoj) hQ hy h1
      have hfree':∀ k ok,ops[k]? = some ok → k ≠ i → (listed.setIfInBounds j true).getD k true = false →
          (∀ e ∈ ok.after,Region.binds md e = true → e.on ≠ i) → oi.apart ops ok = true:=fun k ok hk hki hun hno => by
        refine hfree k ok hk hki ?_ hno
        by_cases hjk:j = k
        · subst hjk; exact hjun
        · rw [getD_set_ne true hjk] at hun; exact hun
      have hiu:listed.getD i false = false:=by
        have hil:=(mem_ready.1 hr).1
        rcases Nat.lt_or_ge i listed.size with h' | h'
        · simp [h'] at hil ⊢; exact hil
        · simp [Array.getElem?_eq_none h']
      have hju:listed.getD j false = false:=by
        rcases Nat.lt_or_ge j listed.size with h' | h'
        · simp [h'] at hjun ⊢; exact hjun
        · simp [Array.getElem?_eq_none h']
      have hzj:free = false → Z.contains j = false:=fun hf => by
        cases hc:Z.contains j with
        | false => rfl
        | true =>
          rcases hz hf j hc with h5 | h5
          · rw [hju] at h5; cases h5
          · have:=depB_spec h5 hcl hj
            rw [hiu] at this; cases this
      have hz':free = false → ∀ k,Z.contains k = true → (listed.setIfInBounds j true).getD k false = true ∨ depB md ops k i = true:=fun hf k hk => by
        rcases hz hf k hk with h5 | h5
        · left
          by_cases hjk:j = k
          · subst hjk; rw [hju] at h5; cases h5
          · rw [getD_set_ne false hjk]; exact h5
        · exact .inr h5
      refine wpOp_mono (fun a' w' h3 => ?_) h2
      obtain ⟨hy',S',hs,H'⟩:=h3
      have hs1:∀ u,SS free S' u → SS free S u:=by
        cases free with
        | true => exact fun _ h => h
        | false => exact hs.1 (hzj rfl)
      refine ⟨S',hs,ih (listed.setIfInBounds j true) S' a' w' (hcl.set hj) hz' hfree' (ready_mono hr (Ne.symm hji)) (yieldsIf_mono hy' hs1) hs.2 ?_⟩
      rw [Array.setIfInBounds_comm _ _ hji]
      exact H'
inductive Pl where
  | done
  | q (k:Nat) (r:Pl)
  | e (k:Nat) (r:Pl)
  | two (k₁:Nat) (r₁:Pl) (k₂:Nat) (r₂:Pl)
def Pl.len:Pl → Nat
  | .done => 0
  | .q _ r => r.len + 1
  | .e _ r => r.len + 1
  | .two _ r₁ _ _ => r₁.len + 1
def wpT (P:Program) (ops:Array Oper) (Z F:List Nat) (K:Act → World → Prop):Pl → (World → Prop) → Act → World → Prop
  | .done,_,a,w => K a w
  | .q k r,S,a,w => ∃ o v,ops[k]? = some o∧YieldsIf P ops (SS (F.contains k) S) o v a∧wpT P ops Z F K r S (a.put o.dst v) w
  | .e k r,S,a,w => ∃ o,ops[k]? = some o∧wpList P ops (Qn fun a' w' => ∃ S':World → Prop,((Z.contains k = false → ∀ u,S' u → S u)∧S' w')∧wpT P ops Z F K r S' a' w') [o] a w
  | .two k₁ r₁ k₂ r₂,S,a,w => (∃ o,ops[k₁]? = some o∧wpList P ops (Qn fun a' w' => ∃ S':World → Prop,((Z.contains k₁ = false → ∀ u,S' u → S u)∧S' w')∧wpT P ops Z F K r₁ S' a' w') [o] a w)∧(∃ o,ops[k₂]? = some o∧wpList P ops (Qn fun a' w' => ∃ S':World → Prop,((Z.contains k₂ = false → ∀ u,S' u → S u)∧S' w')∧wpT P ops Z F K r₂ S' a' w') [o] a w)
def planT (md:Region.Mode) (ops:Array Oper) (Z F:List Nat):Pl → Array Bool → Bool
  | .done,listed => (Region.ready md ops listed).isEmpty
  | .q k r,listed => (Region.ready md ops listed).contains k && Region.free md ops listed k && (F.contains k || Z.all fun z => listed.getD z false || depB md ops z k) && planT md ops Z F r (listed.setIfInBounds k true)
  | .e k r,listed => decide (Region.ready md ops listed = [k]) && planT md ops Z F r (listed.setIfInBounds k true)
  | .two k₁ r₁ k₂ r₂,listed => decide (Region.ready md ops listed = [k₁,k₂]) && Nat.beq r₁.len r₂.len && planT md ops Z F r₁ (listed.setIfInBounds k₁ true) && planT md ops Z F r₂ (listed.setIfInBounds k₂ true)
theorem closed_none (n:Nat):Closed md ops (Array.replicate n false):=fun m o _ h => by
  rcases Nat.lt_or_ge m n with h' | h'
  · simp [h'] at h
  · simp [h'] at h
theorem wpT_sound (hsel:Region.noSelect ops = true) {K:Act → World → Prop}:∀ (pl:Pl) (listed:Array Bool) (S:World → Prop) (a:Act) (w:World),
    Closed md ops listed → planT md ops Z F pl listed = true → S w → wpT P ops Z F K pl S a w → wpG2 P md ops Z (Qn K) pl.len listed S a w
  | .done,listed,S,a,w,hc,hB,hS,h => ⟨by simpa [planT] using hB,rfl,h⟩
  | .q k r,listed,S,a,w,hc,hB,hS,h => by
    simp only [planT,Bool.and_eq_true] at hB
    obtain ⟨o,v,ho,hy,h⟩:=h
    refine wpG2_first ho (Region.noSelect_spec hsel) (fun c a w h => absurd h.1 (by intro e; cases e)) r.len listed S a w hc (fun hf z hz => ?_) (Region.free_spec ho hB.1.1.2) (by simpa using hB.1.1.1) hy hS (wpT_sound hsel r _ S _ w (hc.set (by simpa using hB.1.1.1)) hB.2 hS h)
    rw [hf,Bool.false_or] at hB
    have:=List.all_eq_true.1 hB.1.2 z (by simpa using hz)
    simpa using this
  | .e k r,listed,S,a,w,hc,hB,hS,h => by
    simp only [planT,Bool.and_eq_true,decide_eq_true_eq] at hB
    obtain ⟨o,ho,h⟩:=h
    refine ⟨fun h0 => (by rw [hB.1] at h0; cases h0),fun i hi => ?_⟩
    have hi':=hi
    rw [hB.1] at hi
    obtain rfl:i = k:=by simpa using hi
    have h1:=wpOp_of_one (K':=K) ho h
    exact wpOp_mono (fun a' w' ⟨S',hs,h'⟩ => ⟨S',hs,wpT_sound hsel r _ S' a' w' (hc.set hi') hB.2 hs.2 h'⟩) h1
  | .two k₁ r₁ k₂ r₂,listed,S,a,w,hc,hB,hS,h => by
    simp only [planT,Bool.and_eq_true,decide_eq_true_eq] at hB
    obtain ⟨⟨⟨hB0,hBl⟩,hB1⟩,hB2⟩:=hB
    have hl:r₂.len = r₁.len:=(Nat.eq_of_beq_eq_true hBl).symm
    obtain ⟨⟨o₁,ho₁,h₁⟩,o₂,ho₂,h₂⟩:=h
    refine ⟨fun h0 => (by rw [hB0] at h0; cases h0),fun i hi => ?_⟩
    have hi':=hi
    rw [hB0] at hi
    have hi:i = k₁ ∨ i = k₂:=by simpa using hi
    rcases hi with rfl | rfl
    · have h1:=wpOp_of_one (K':=K) ho₁ h₁
      exact wpOp_mono (fun a' w' ⟨S',hs,h'⟩ => ⟨S',hs,wpT_sound hsel r₁ _ S' a' w' (hc.set hi') hB1 hs.2 h'⟩) h1
    · have h1:=wpOp_of_one (K':=K) ho₂ h₂
      refine wpOp_mono (fun a' w' ⟨S',hs,h'⟩ => ⟨S',hs,?_⟩) h1
      have:=wpT_sound hsel r₂ _ S' a' w' (hc.set hi') hB2 hs.2 h'
      rw [hl] at this
      exact this
end
section
variable {P:Program} {Q:Exit → Act → World → Prop} {N:Nat} {ρ:Nat → Value} {w:World} {S:World → Prop}
theorem t_region {id:Nat} {l:List Oper} {H:Hp} {L L':List Res} (Z F:List Nat) (pl:Pl) (hm:P.follows .mixedOrders = true) (hs:St H w L) (hk:∀ u,St H u L → St H u L')
    (hB:(Region.noSelect l.toArray && Nat.beq pl.len l.length && planT .any l.toArray Z F pl (Array.replicate l.length false)) = true)
    (h:∀ w,St H w L → wpT P l.toArray Z F (Q .normal) pl (fun u => St H u L') (en N ρ) w):(Code.region id l.toArray true).wp P Q (en N ρ) w:=by
  simp only [Bool.and_eq_true] at hB
  obtain ⟨⟨hB1,hB2⟩,hB3⟩:=hB
  have hlen:pl.len = l.length:=Nat.eq_of_beq_eq_true hB2
  refine Code.wp_mono (Q:=Qn (Q .normal)) (fun e a w hq => by rw [hq.1]; exact hq.2) (wp_region_any hm (wpAny_of_g2 (Z:=Z) _ _ (fun u => St H u L') _ _ ?_))
  have:=wpT_sound (md:=.any) (Z:=Z) hB1 pl _ _ (en N ρ) _ (closed_none _) hB3 (hk _ (hs.drawn (w.drawn + 1))) (h _ (hs.drawn (w.drawn + 1)))
  rw [hlen] at this
  simpa using this
variable {ops:Array Oper} {Z F:List Nat} {K:Act → World → Prop} {r r₁ r₂:Pl} {k d ty:Nat} {pos:String} {aft:Array Edge} {op:Op} {v:Value}
theorem t_nil (h:K (en N ρ) w):wpT P ops Z F K .done S (en N ρ) w:=h
theorem t_st (hf:F.contains k = false) (ho:ops[k]? = some ⟨some d,op,ty,pos,aft,none⟩) (hr:∀ w,S w → Ex P N ρ w op ty v w) (h:wpT P ops Z F K r S (en N (up ρ d v)) w):wpT P ops Z F K (.q k r) S (en N ρ) w:=by
  refine ⟨_,v,ho,.inl ⟨by simp [Region.wanted],fun u hu => hr u (by rw [hf] at hu; exact hu) _ _ _ _⟩,?_⟩
  rw [en_put]; exact h
theorem t_fr (ho:ops[k]? = some ⟨some d,op,ty,pos,aft,none⟩) (hr:∀ w,True → Ex P N ρ w op ty v w) (h:wpT P ops Z F K r S (en N (up ρ d v)) w):wpT P ops Z F K (.q k r) S (en N ρ) w:=by
  refine ⟨_,v,ho,.inl ⟨by simp [Region.wanted],fun u hu => hr u trivial _ _ _ _⟩,?_⟩
  rw [en_put]; exact h
theorem t_yes {j:Nat} {b:Bool} (hf:F.contains k = false) (ho:ops[k]? = some ⟨some d,op,ty,pos,aft,some (j,b)⟩) (hy:yielded ops (en N ρ).tmps j = some b) (hr:∀ w,S w → Ex P N ρ w op ty v w) (h:wpT P ops Z F K r S (en N (up ρ d v)) w):wpT P ops Z F K (.q k r) S (en N ρ) w:=by
  refine ⟨_,v,ho,.inl ⟨by simp [Region.wanted,hy],fun u hu => hr u (by rw [hf] at hu; exact hu) _ _ _ _⟩,?_⟩
  rw [en_put]; exact h
theorem t_eff {o:Oper} (ho:ops[k]? = some o) (h:wpList P ops (Qn fun a' w' => ∃ S':World → Prop,((Z.contains k = false → ∀ u,S' u → S u)∧S' w')∧wpT P ops Z F K r S' a' w') [o] (en N ρ) w):wpT P ops Z F K (.e k r) S (en N ρ) w:=⟨o,ho,h⟩
theorem t_on {S':World → Prop} (hs:∀ u,S' u → S u) (hw:S' w) (h:wpT P ops Z F K r S' (en N ρ) w) :
    wpList P ops (Qn fun a' w' => ∃ S':World → Prop,((Z.contains k = false → ∀ u,S' u → S u)∧S' w')∧wpT P ops Z F K r S' a' w') [] (en N ρ) w:=⟨rfl,S',⟨fun _ => hs,hw⟩,h⟩
theorem t_two {k₁ k₂:Nat} (h₁:wpT P ops Z F K (.e k₁ r₁) S (en N ρ) w) (h₂:wpT P ops Z F K (.e k₂ r₂) S (en N ρ) w):wpT P ops Z F K (.two k₁ r₁ k₂ r₂) S (en N ρ) w:=⟨h₁,h₂⟩
theorem t_new {S':World → Prop} (hz:Z.contains k = true) (hw:S' w) (h:wpT P ops Z F K r S' (en N ρ) w) :
    wpList P ops (Qn fun a' w' => ∃ S':World → Prop,((Z.contains k = false → ∀ u,S' u → S u)∧S' w')∧wpT P ops Z F K r S' a' w') [] (en N ρ) w:=⟨rfl,S',⟨fun e => (by rw [hz] at e; cases e),hw⟩,h⟩
end
end Go.FM

set_option linter.unusedVariables false
set_option linter.unusedSimpArgs false
namespace Go.FM
open Go
section
variable {P:Program} {ops:Array Oper} {Q:Exit → Act → World → Prop} {K:Act → World → Prop} {a:Act} {w:World} {N:Nat} {ρ:Nat → Value} {C:World → Prop} {Qa Ka:Act → Prop} {o:Oper}
theorem upon_join {next next':Act → World → Prop} (hn:∀ a w,next a w → next' a w) (h:o.wp P a w next (Qn K)):o.wp P a w next' Q:=by
  unfold Oper.wp at h ⊢
  generalize (execOp a.eval o).run P w = r at h ⊢
  cases r with
  | ok n w' =>
    cases n <;> simp only [Oper.upon] at h ⊢
    case value v => exact hn _ _ h
    case skip => exact hn _ _ h
    case defer d => exact hn _ _ h
    case enter f args =>
      refine Calls.mono h fun e w'' he => ?_
      cases e with
      | returned v => exact hn _ _ he
      | panicked c => exact absurd he.1 (by intro e; cases e)
      | outgrown => exact absurd he not_letsOut
    case row row args => exact Rows.mono h fun v w'' he => hn _ _ he
  | halt x w' =>
    cases x <;> simp only [Oper.upon] at h ⊢
    case panic v => exact absurd h.1 (by intro e; cases e)
theorem wpList_app:∀ (l1 l2:List Oper) (a:Act) (w:World),wpList P ops (Qn (wpList P ops Q l2)) l1 a w → wpList P ops Q (l1 ++ l2) a w
  | [],l2,a,w,h => h.2
  | o::l1,l2,a,w,h => by
    simp only [wpList,List.cons_append] at h ⊢
    split
    · rename_i hw
      rw [if_pos hw] at h
      left
      rcases h with h | ⟨_,h⟩
      · exact upon_join (fun a w h => wpList_app l1 l2 a w h) h
      · exact absurd h not_letsOut
    · rename_i hw
      rw [if_neg hw] at h
      exact wpList_app l1 l2 _ w h
theorem wpList_mono {K K':Act → World → Prop} (hk:∀ a w,K a w → K' a w):∀ (l:List Oper) (a:Act) (w:World),wpList P ops (Qn K) l a w → wpList P ops (Qn K') l a w
  | [],a,w,h => ⟨h.1,hk a w h.2⟩
  | o::l,a,w,h => by
    simp only [wpList] at h ⊢
    split
    · rename_i hw
      rw [if_pos hw] at h
      left
      rcases h with h | ⟨_,h⟩
      · exact upon_join (fun a w h => wpList_mono hk l a w h) h
      · exact absurd h not_letsOut
    · rename_i hw
      rw [if_neg hw] at h
      exact wpList_mono hk l _ w h
theorem jw {l:List Oper} (k:Nat) (S:(Nat → Value) → World → Prop) (h:wpList P ops (Qn fun a' w' => ∃ ρ',a' = en N ρ'∧S ρ' w') (l.take k) (en N ρ) w) (c:∀ ρ' w',S ρ' w' → wpList P ops Q (l.drop k) (en N ρ') w'):wpList P ops Q l (en N ρ) w:=by
  have h2:=wpList_app (Q:=Q) (l.take k) (l.drop k) (en N ρ) w (wpList_mono (fun a' w' h => by obtain ⟨ρ',rfl,hS⟩:=h; exact c ρ' w' hS) _ _ _ h)
  rwa [List.take_append_drop] at h2
theorem jw_end {S:(Nat → Value) → World → Prop} (h:S ρ w):wpList P ops (Qn fun a' w' => ∃ ρ',a' = en N ρ'∧S ρ' w') [] (en N ρ) w:=⟨rfl,ρ,rfl,h⟩
end
section
variable {a b:Bool} {p q:Prop}
theorem jor_f (h:a = false):b = (a || b):=by rw [h]; rfl
theorem jor_t (h:a = true):true = (a || b):=by rw [h]; rfl
theorem jand_t (h:a = true):b = (a && b):=by rw [h]; rfl
theorem jand_f (h:a = false):false = (a && b):=by rw [h]; rfl
theorem J_or (h:a = true ↔ p) (k:b = true ↔ q):(a || b) = true ↔ (p ∨ q):=by rw [Bool.or_eq_true,h,k]
theorem J_and (h:a = true ↔ p) (k:b = true ↔ q):(a && b) = true ↔ (p∧q):=by rw [Bool.and_eq_true,h,k]
theorem J_not (h:a = true ↔ p):(!a) = true ↔ ¬ p:=by rw [Bool.not_eq_true',← h,Bool.not_eq_true]
theorem J_no (h:a = true ↔ p) (k:a = false):¬ p:=fun hp => by rw [h.2 hp] at k; cases k
end
end Go.FM

set_option linter.unusedVariables false
set_option linter.unusedSimpArgs false
namespace Go.Proofs.Ytlfihfmmhhcigaa
open Go Go.FM Go.Proofs
attribute [local irreducible] wpList wpQuiet wpS Code.wp Calls
set_option maxHeartbeats 8000000 in
theorem form_spec {H:Hp} {w:World} {L:List Res} (hs:St H w L) (n:Nat) (p:Int):Calls Try.prog 61 #[.agg #[.int .u64 ((n:Nat):Int),.int .i64 p]] w (fun e w' => e = .returned (.bool (formV n p))∧St H w' L):=by
 refine enter (args:=[.agg #[.int .u64 ((n:Nat):Int),.int .i64 p]]) (N:=21) Try.func61 rfl rfl rfl ?_
 refine c_seq (c_region (st_m (m_box (cs:=[.int .u64 ((n:Nat):Int),.int .i64 p]) hs (v:=.agg #[.int .u64 ((n:Nat):Int),.int .i64 p]) (.tmp rfl rfl) rfl) ?_))
 rintro _ w2 ⟨g1,rfl,hs4⟩
 refine st (v:=.bool false) (x_assign .const) ?_
 refine c_nil (n_then (c_seq (c_region (st (v:=.pointer (some ⟨g1,0 + 1,none⟩)) (fa24_1 (.tmp rfl rfl)) ?_))))
 refine st (v:=.int .i64 p) (ld3 (.tmp rfl rfl) (hs4.cell 0 rfl (0 + 1) rfl)) ?_
 refine st (v:=.bool (decide ((0:Int) ≤ p))) (x_geq (k:=.i64) (a:=p) (b:=0) (.tmp rfl rfl) .const) ?_
 refine st (v:=.bool (decide ((0:Int) ≤ p))) (x_move (.tmp rfl rfl)) ?_
 rcases Bool.eq_false_or_eq_true (decide ((0:Int) ≤ p)) with hc5 | hc5
 have hp5:(0:Int) ≤ p:=of_decide_eq_true hc5
 refine g_yes (yk 6 true rfl rfl hc5) ?_
 refine st (v:=.pointer (some ⟨g1,0 + 1,none⟩)) (fa24_1 (.tmp rfl rfl)) ?_
 refine g_yes (yk 6 true rfl rfl hc5) ?_
 refine st (v:=.int .i64 p) (ld3 (.tmp rfl rfl) (hs4.cell 0 rfl (0 + 1) rfl)) ?_
 refine g_yes (yk 6 true rfl rfl hc5) ?_
 refine st (v:=.bool (decide ((p:Int) < 16))) (x_lss (k:=.i64) (a:=p) (b:=16) (.tmp rfl rfl) .const) ?_
 refine st (v:=.bool (decide ((p:Int) < 16))) (x_pick_t (.tmp rfl (congrArg Value.bool hc5)) (.tmp rfl rfl)) ?_
 refine st (v:=.bool (decide ((p:Int) < 16))) (x_move (.tmp rfl rfl)) ?_
 rcases Bool.eq_false_or_eq_true (decide ((p:Int) < 16)) with hc6 | hc6
 have hp6:(p:Int) < 16:=of_decide_eq_true hc6
 refine g_yes (yk 11 true rfl rfl hc6) ?_
 refine st (v:=.pointer (some ⟨g1,0 + 0,none⟩)) (fa24_0 (.tmp rfl rfl)) ?_
 refine g_yes (yk 11 true rfl rfl hc6) ?_
 refine st (v:=.int .u64 ((n:Nat):Int)) (ld22 (.tmp rfl rfl) (hs4.cell 0 rfl (0 + 0) rfl)) ?_
 refine g_yes (yk 11 true rfl rfl hc6) ?_
 refine st (v:=.bool (decide ((0:Int) < ((n:Nat):Int)))) (x_gtr (k:=.u64) (a:=((n:Nat):Int)) (b:=0) (.tmp rfl rfl) .const) ?_
 refine g_yes (yk 11 true rfl rfl hc6) ?_
 refine st (v:=.bool (decide ((0:Int) < ((n:Nat):Int)))) (x_move (.tmp rfl rfl)) ?_
 rcases Bool.eq_false_or_eq_true (decide ((0:Int) < ((n:Nat):Int))) with hc7 | hc7
 have hp7:(0:Int) < ((n:Nat):Int):=of_decide_eq_true hc7
 refine g_no (yk 15 true rfl rfl hc7) rfl ?_
 refine g_no (yk 15 true rfl rfl hc7) rfl ?_
 refine g_no (yk 15 true rfl rfl hc7) rfl ?_
 refine g_yes (yk 11 true rfl rfl hc6) ?_
 refine st (v:=.bool true) (x_pick_t (.tmp rfl (congrArg Value.bool hc7)) .const) ?_
 refine st (v:=.bool true) (x_pick_t (.tmp rfl (congrArg Value.bool hc6)) (.tmp rfl rfl)) ?_
 refine st (v:=.bool true) (x_assign (.tmp rfl rfl)) ?_
 refine c_nil (n_then (c_ret (leave_ret (res_one (v:=.bool true) rfl (.mk rfl rfl)) ?_)))
 have hfm:true = formV n p:=by
   unfold formV
   first | exact decide_eq_decide.2 (by omega) | exact (decide_eq_true (by omega)).symm | exact (decide_eq_false (by omega)).symm
 exact ⟨congrArg (fun b => Ending.returned (.bool b)) hfm,hs4.drop⟩
 have hp7:¬ ((0:Int) < ((n:Nat):Int)):=of_decide_eq_false hc7
 refine g_yes (yk 15 false rfl rfl hc7) ?_
 refine st (v:=.pointer (some ⟨g1,0 + 1,none⟩)) (fa24_1 (.tmp rfl rfl)) ?_
 refine g_yes (yk 15 false rfl rfl hc7) ?_
 refine st (v:=.int .i64 p) (ld3 (.tmp rfl rfl) (hs4.cell 0 rfl (0 + 1) rfl)) ?_
 refine g_yes (yk 15 false rfl rfl hc7) ?_
 refine st (v:=.bool (decide ((p:Int) = 0))) (x_eql (k:=.i64) (a:=p) (b:=0) (.tmp rfl rfl) .const) ?_
 refine g_yes (yk 11 true rfl rfl hc6) ?_
 refine st (v:=.bool (decide ((p:Int) = 0))) (x_pick_f (.tmp rfl (congrArg Value.bool hc7)) (.tmp rfl rfl)) ?_
 refine st (v:=.bool (decide ((p:Int) = 0))) (x_pick_t (.tmp rfl (congrArg Value.bool hc6)) (.tmp rfl rfl)) ?_
 refine st (v:=.bool (decide ((p:Int) = 0))) (x_assign (.tmp rfl rfl)) ?_
 refine c_nil (n_then (c_ret (leave_ret (res_one (v:=.bool (decide ((p:Int) = 0))) rfl (.mk rfl rfl)) ?_)))
 have hfm:(decide ((p:Int) = 0)) = formV n p:=by
   unfold formV
   first | exact decide_eq_decide.2 (by omega) | exact (decide_eq_true (by omega)).symm | exact (decide_eq_false (by omega)).symm
 exact ⟨congrArg (fun b => Ending.returned (.bool b)) hfm,hs4.drop⟩
 have hp6:¬ ((p:Int) < 16):=of_decide_eq_false hc6
 refine g_no (yk 11 false rfl rfl hc6) rfl ?_
 refine g_no (yk 11 false rfl rfl hc6) rfl ?_
 refine g_no (yk 11 false rfl rfl hc6) rfl ?_
 refine g_no (yk 11 false rfl rfl hc6) rfl ?_
 refine g_no0 (yn (dj:=15) rfl rfl) ?_
 refine g_no0 (yn (dj:=15) rfl rfl) ?_
 refine g_no0 (yn (dj:=15) rfl rfl) ?_
 refine g_no (yk 11 false rfl rfl hc6) rfl ?_
 refine st (v:=.bool false) (x_pick_f (.tmp rfl (congrArg Value.bool hc6)) .const) ?_
 refine st (v:=.bool false) (x_assign (.tmp rfl rfl)) ?_
 refine c_nil (n_then (c_ret (leave_ret (res_one (v:=.bool false) rfl (.mk rfl rfl)) ?_)))
 have hfm:false = formV n p:=by
   unfold formV
   first | exact decide_eq_decide.2 (by omega) | exact (decide_eq_true (by omega)).symm | exact (decide_eq_false (by omega)).symm
 exact ⟨congrArg (fun b => Ending.returned (.bool b)) hfm,hs4.drop⟩
 have hp5:¬ ((0:Int) ≤ p):=of_decide_eq_false hc5
 refine g_no (yk 6 false rfl rfl hc5) rfl ?_
 refine g_no (yk 6 false rfl rfl hc5) rfl ?_
 refine g_no (yk 6 false rfl rfl hc5) rfl ?_
 refine st (v:=.bool false) (x_pick_f (.tmp rfl (congrArg Value.bool hc5)) .const) ?_
 refine st (v:=.bool false) (x_move (.tmp rfl rfl)) ?_
 refine g_no (yl (dj:=11) (b:=false) rfl rfl rfl) rfl ?_
 refine g_no (yl (dj:=11) (b:=false) rfl rfl rfl) rfl ?_
 refine g_no (yl (dj:=11) (b:=false) rfl rfl rfl) rfl ?_
 refine g_no (yl (dj:=11) (b:=false) rfl rfl rfl) rfl ?_
 refine g_no0 (yn (dj:=15) rfl rfl) ?_
 refine g_no0 (yn (dj:=15) rfl rfl) ?_
 refine g_no0 (yn (dj:=15) rfl rfl) ?_
 refine g_no (yl (dj:=11) (b:=false) rfl rfl rfl) rfl ?_
 refine st (v:=.bool false) (x_pick_f (.tmp rfl rfl) .const) ?_
 refine st (v:=.bool false) (x_assign (.tmp rfl rfl)) ?_
 refine c_nil (n_then (c_ret (leave_ret (res_one (v:=.bool false) rfl (.mk rfl rfl)) ?_)))
 have hfm:false = formV n p:=by
   unfold formV
   first | exact decide_eq_decide.2 (by omega) | exact (decide_eq_true (by omega)).symm | exact (decide_eq_false (by omega)).symm
 exact ⟨congrArg (fun b => Ending.returned (.bool b)) hfm,hs4.drop⟩
set_option maxHeartbeats 8000000 in
theorem rform_spec {H:Hp} {w:World} {L:List Res} (hs:St H w L) (n:Nat) (p:Int):Calls Try.prog 19 #[.agg #[.int .u64 ((n:Nat):Int),.int .i64 p]] w (fun e w' => e = .returned (.bool (formV n p))∧St H w' L):=by
 refine enter (args:=[.agg #[.int .u64 ((n:Nat):Int),.int .i64 p]]) (N:=17) Try.func19 rfl rfl rfl ?_
 refine c_seq (c_region (st_m (m_box (cs:=[.int .u64 ((n:Nat):Int),.int .i64 p]) hs (v:=.agg #[.int .u64 ((n:Nat):Int),.int .i64 p]) (.tmp rfl rfl) rfl) ?_))
 rintro _ w2 ⟨g1,rfl,hs4⟩
 refine st (v:=.bool false) (x_assign .const) ?_
 refine c_nil (n_then (c_seq (c_seq (c_region (st (v:=.pointer (some ⟨g1,0 + 0,none⟩)) (fa24_0 (.tmp rfl rfl)) ?_)))))
 refine st (v:=.int .u64 ((n:Nat):Int)) (ld22 (.tmp rfl rfl) (hs4.cell 0 rfl (0 + 0) rfl)) ?_
 refine st (v:=.bool (decide ((((n:Nat):Int):Int) = 0))) (x_eql (k:=.u64) (a:=((n:Nat):Int)) (b:=0) (.tmp rfl rfl) .const) ?_
 refine c_nil (n_then ?_)
 rcases Bool.eq_false_or_eq_true (decide ((((n:Nat):Int):Int) = 0)) with hc5 | hc5
 have hp5:(((n:Nat):Int):Int) = 0:=of_decide_eq_true hc5
 refine c_cond_t (t:=true) (.tmp rfl (congrArg Value.bool hc5)) rfl ?_
 refine c_seq (c_region (st (v:=.pointer (some ⟨g1,0 + 1,none⟩)) (fa24_1 (.tmp rfl rfl)) ?_))
 refine st (v:=.int .i64 p) (ld3 (.tmp rfl rfl) (hs4.cell 0 rfl (0 + 1) rfl)) ?_
 refine st (v:=.bool (decide ((p:Int) = 0))) (x_eql (k:=.i64) (a:=p) (b:=0) (.tmp rfl rfl) .const) ?_
 refine st (v:=.bool (decide ((p:Int) = 0))) (x_assign (.tmp rfl rfl)) ?_
 refine c_nil (n_then (c_ret (r_then (leave_ret (res_one (v:=.bool (decide ((p:Int) = 0))) rfl (.mk rfl rfl)) ?_))))
 have hfm:(decide ((p:Int) = 0)) = formV n p:=by
   unfold formV
   first | exact decide_eq_decide.2 (by omega) | exact (decide_eq_true (by omega)).symm | exact (decide_eq_false (by omega)).symm
 exact ⟨congrArg (fun b => Ending.returned (.bool b)) hfm,hs4.drop⟩
 have hp5:¬ ((((n:Nat):Int):Int) = 0):=of_decide_eq_false hc5
 refine c_cond_f (t:=false) (.tmp rfl (congrArg Value.bool hc5)) rfl ?_
 refine c_skip (n_then (c_seq (c_region (st (v:=.pointer (some ⟨g1,0 + 1,none⟩)) (fa24_1 (.tmp rfl rfl)) ?_))))
 refine st (v:=.int .i64 p) (ld3 (.tmp rfl rfl) (hs4.cell 0 rfl (0 + 1) rfl)) ?_
 refine st (v:=.bool (decide ((0:Int) ≤ p))) (x_geq (k:=.i64) (a:=p) (b:=0) (.tmp rfl rfl) .const) ?_
 refine st (v:=.bool (decide ((0:Int) ≤ p))) (x_move (.tmp rfl rfl)) ?_
 rcases Bool.eq_false_or_eq_true (decide ((0:Int) ≤ p)) with hc6 | hc6
 have hp6:(0:Int) ≤ p:=of_decide_eq_true hc6
 refine g_yes (yk 12 true rfl rfl hc6) ?_
 refine st (v:=.pointer (some ⟨g1,0 + 1,none⟩)) (fa24_1 (.tmp rfl rfl)) ?_
 refine g_yes (yk 12 true rfl rfl hc6) ?_
 refine st (v:=.int .i64 p) (ld3 (.tmp rfl rfl) (hs4.cell 0 rfl (0 + 1) rfl)) ?_
 refine g_yes (yk 12 true rfl rfl hc6) ?_
 refine st (v:=.bool (decide ((p:Int) ≤ 15))) (x_leq (k:=.i64) (a:=p) (b:=15) (.tmp rfl rfl) .const) ?_
 refine st (v:=.bool (decide ((p:Int) ≤ 15))) (x_pick_t (.tmp rfl (congrArg Value.bool hc6)) (.tmp rfl rfl)) ?_
 refine st (v:=.bool (decide ((p:Int) ≤ 15))) (x_assign (.tmp rfl rfl)) ?_
 refine c_nil (n_then (c_ret (leave_ret (res_one (v:=.bool (decide ((p:Int) ≤ 15))) rfl (.mk rfl rfl)) ?_)))
 have hfm:(decide ((p:Int) ≤ 15)) = formV n p:=by
   unfold formV
   first | exact decide_eq_decide.2 (by omega) | exact (decide_eq_true (by omega)).symm | exact (decide_eq_false (by omega)).symm
 exact ⟨congrArg (fun b => Ending.returned (.bool b)) hfm,hs4.drop⟩
 have hp6:¬ ((0:Int) ≤ p):=of_decide_eq_false hc6
 refine g_no (yk 12 false rfl rfl hc6) rfl ?_
 refine g_no (yk 12 false rfl rfl hc6) rfl ?_
 refine g_no (yk 12 false rfl rfl hc6) rfl ?_
 refine st (v:=.bool false) (x_pick_f (.tmp rfl (congrArg Value.bool hc6)) .const) ?_
 refine st (v:=.bool false) (x_assign (.tmp rfl rfl)) ?_
 refine c_nil (n_then (c_ret (leave_ret (res_one (v:=.bool false) rfl (.mk rfl rfl)) ?_)))
 have hfm:false = formV n p:=by
   unfold formV
   first | exact decide_eq_decide.2 (by omega) | exact (decide_eq_true (by omega)).symm | exact (decide_eq_false (by omega)).symm
 exact ⟨congrArg (fun b => Ending.returned (.bool b)) hfm,hs4.drop⟩
end Go.Proofs.Ytlfihfmmhhcigaa

set_option linter.unusedVariables false
set_option linter.unusedSimpArgs false
namespace Go.Proofs.Ytlfihfmmhhcigaa
open Go Go.FM Go.Proofs
attribute [local irreducible] wpList wpQuiet wpS Code.wp Calls
set_option maxHeartbeats 8000000 in
theorem sum_spec {H:Hp} {w:World} {L:List Res} (hs:St H w L) {A:Option Addr} {n c:Nat} {bs:List Nat} (hp:Bs H A n c bs) (hn:n ≤ 140737488355320):Calls Try.prog 59 #[.slice A n c] w (fun e w' => e = .returned (.int .u32 ((crc bs:Nat):Int))∧St H w' L):=by
 refine enter (args:=[.slice A n c]) (N:=29) Try.func59 rfl rfl rfl ?_
 have hle:=hp.le
 have hlen:=hp.len
 refine c_seq (c_region (st (v:=.int .u32 0) (x_assign .const) ?_))
 refine c_nil (n_then (c_seq (c_region (st (v:=.int .u32 4294967295) (x_assign .const) ?_))))
 refine c_nil (n_then (c_seq (c_seq (c_region (st (v:=.slice A n c) (x_move (.tmp rfl rfl)) ?_)))))
 refine st (v:=.int .i64 ((n:Nat):Int)) (x_len (n:=n) Try.underlying33 (.tmp rfl rfl)) ?_
 refine st (v:=.int .i64 0) (x_move .const) ?_
 refine c_nil (n_then (c_block (c_loop (fun ρ w mm => ∃ (i:Nat) (cc:Nat),ρ 3 = .int .u32 ((cc:Nat):Int)∧ρ 6 = .slice A n c∧ρ 7 = .int .i64 ((n:Nat):Int)∧ρ 8 = .int .i64 ((i:Nat):Int)∧(i ≤ n)∧(cc < 4294967296)∧(cc = crcR 4294967295 (bs.take i))∧St H w (L)∧mm = n - i) _ ⟨0,4294967295,rfl,rfl,rfl,rfl,(by omega),(by decide),rfl,hs,rfl⟩ ?_)))
 rintro ρ w mm ⟨i,cc,hρ2,hρ3,hρ4,hρ5,hi,hc,he,hs6,rfl⟩
 refine c_seq (c_region (st (v:=.bool (decide ((((i:Nat):Int):Int) < ((n:Nat):Int)))) (x_lss (k:=.i64) (a:=((i:Nat):Int)) (b:=((n:Nat):Int)) (.tmp rfl hρ5) (.tmp rfl hρ4)) ?_))
 refine c_nil (n_then (c_seq ?_))
 rcases Bool.eq_false_or_eq_true (decide ((((i:Nat):Int):Int) < ((n:Nat):Int))) with hc7 | hc7
 have hp7:(((i:Nat):Int):Int) < ((n:Nat):Int):=of_decide_eq_true hc7
 refine c_cond_t (t:=true) (.tmp rfl (congrArg Value.bool hc7)) rfl ?_
 refine c_skip (n_then (c_seq (c_block (c_seq (c_region ?_)))))
 obtain ⟨b8,o9,hA10,hc11⟩:=hp.get (i:=i) (by omega)
 refine st (v:=.pointer (some ⟨b8,(o9 + i * 1),none⟩)) (ixo33 (.tmp rfl hρ3) hA10 (i:=((i:Nat):Int)) (.tmp rfl hρ5) (by omega) (by omega) rfl) ?_
 refine st (v:=.int .u8 ((bs.getD i 0:Nat):Int)) (ld5 (.tmp rfl rfl) (hc11 hs6)) ?_
 refine st (v:=.int .u8 ((bs.getD i 0:Nat):Int)) (x_assign (.tmp rfl rfl)) ?_
 refine c_nil (n_then (c_seq (c_region (st (v:=.int .u32 ((cc:Nat):Int)) (x_move (.tmp rfl hρ2)) ?_))))
 refine st (v:=.int .u8 ((bs.getD i 0:Nat):Int)) (x_move (.tmp rfl rfl)) ?_
 have hb12:(bs.getD i 0) < 4294967296:=Nat.lt_of_lt_of_le (hp.lt.getD _) (by decide)
 refine st (v:=.int .u32 (((bs.getD i 0):Nat):Int)) (x_conv (k:=.u8) (a:=((bs.getD i 0:Nat):Int)) Try.underlying5 Try.underlying45 (.tmp rfl rfl) (wU rfl rfl hb12)) ?_
 have hb13:(cc ^^^ (bs.getD i 0)) < 4294967296:=Nat.xor_lt_two_pow (n:=32) hc hb12
 refine st (v:=.int .u32 (((cc ^^^ (bs.getD i 0)):Nat):Int)) (x_xor (k:=.u32) (m:=cc) (n:=(bs.getD i 0)) rfl (.tmp rfl rfl) (.tmp rfl rfl) (show _ < 2 ^ 32 from hc) (show _ < 2 ^ 32 from hb12)) ?_
 refine st (v:=.int .u32 (((cc ^^^ (bs.getD i 0)):Nat):Int)) (x_assign (.tmp rfl rfl)) ?_
 refine c_nil (n_then (c_seq (c_region (st (v:=.int .i64 0) (x_move .const) ?_))))
 refine c_nil (n_then (c_block (c_loop (fun ρ w mm => ∃ (j:Nat) (d:Nat),ρ 3 = .int .u32 ((d:Nat):Int)∧ρ 6 = .slice A n c∧ρ 7 = .int .i64 ((n:Nat):Int)∧ρ 8 = .int .i64 ((i:Nat):Int)∧ρ 16 = .int .i64 ((j:Nat):Int)∧(j ≤ 8)∧(d < 4294967296)∧(d = cbits j (cc ^^^ bs.getD i 0))∧St H w (L)∧mm = 8 - j) _ ⟨0,(cc ^^^ (bs.getD i 0)),rfl,hρ3,hρ4,hρ5,rfl,(by omega),hb13,rfl,hs6,rfl⟩ ?_)))
 rintro ρ w mm ⟨j,d,hρ15,hρ16,hρ17,hρ18,hρ19,hj,hd,he2,hs20,rfl⟩
 refine c_seq (c_region (st (v:=.bool (decide ((((j:Nat):Int):Int) < 8))) (x_lss (k:=.i64) (a:=((j:Nat):Int)) (b:=8) (.tmp rfl hρ19) .const) ?_))
 refine c_nil (n_then (c_seq ?_))
 rcases Bool.eq_false_or_eq_true (decide ((((j:Nat):Int):Int) < 8)) with hc21 | hc21
 have hp21:(((j:Nat):Int):Int) < 8:=of_decide_eq_true hc21
 refine c_cond_t (t:=true) (.tmp rfl (congrArg Value.bool hc21)) rfl ?_
 refine c_skip (n_then (c_seq (c_block (c_region (st (v:=.int .u32 ((d:Nat):Int)) (x_move (.tmp rfl hρ15)) ?_)))))
 have hb22:(d / 2 ^ 1) < 4294967296:=Nat.lt_of_le_of_lt (Nat.div_le_self _ _) hd
 refine st (v:=.int .u32 (((d / 2 ^ 1):Nat):Int)) (x_shr (k:=.u32) (m:=d) (b:=1) rfl (.tmp rfl rfl) .const (by omega) (show _ < 2 ^ 32 from hd)) ?_
 refine st (v:=.int .u32 ((d:Nat):Int)) (x_move (.tmp rfl hρ15)) ?_
 have hb23:(d &&& 1) < 4294967296:=Nat.lt_of_le_of_lt Nat.and_le_left hd
 refine st (v:=.int .u32 (((d &&& 1):Nat):Int)) (x_and (k:=.u32) (m:=d) (n:=1) rfl (.tmp rfl rfl) .const (show _ < 2 ^ 32 from hd) (show _ < 2 ^ 32 from (by decide))) ?_
 refine st (v:=.int .u32 ((((0 - (((d &&& 1):Nat):Int)) % 4294967296).toNat:Nat):Int)) (x_neg (k:=.u32) (a:=(((d &&& 1):Nat):Int)) (.tmp rfl rfl) (wrapU _ rfl _)) ?_
 have hb24:(3988292384 &&& (((0 - (((d &&& 1):Nat):Int)) % 4294967296).toNat)) < 4294967296:=Nat.lt_of_le_of_lt Nat.and_le_left (by decide)
 refine st (v:=.int .u32 (((3988292384 &&& (((0 - (((d &&& 1):Nat):Int)) % 4294967296).toNat)):Nat):Int)) (x_and (k:=.u32) (m:=3988292384) (n:=(((0 - (((d &&& 1):Nat):Int)) % 4294967296).toNat)) rfl .const (.tmp rfl rfl) (show _ < 2 ^ 32 from (by decide)) (show _ < 2 ^ 32 from (by omega))) ?_
 have hb25:((d / 2 ^ 1) ^^^ (3988292384 &&& (((0 - (((d &&& 1):Nat):Int)) % 4294967296).toNat))) < 4294967296:=Nat.xor_lt_two_pow (n:=32) hb22 hb24
 refine st (v:=.int .u32 ((((d / 2 ^ 1) ^^^ (3988292384 &&& (((0 - (((d &&& 1):Nat):Int)) % 4294967296).toNat))):Nat):Int)) (x_xor (k:=.u32) (m:=(d / 2 ^ 1)) (n:=(3988292384 &&& (((0 - (((d &&& 1):Nat):Int)) % 4294967296).toNat))) rfl (.tmp rfl rfl) (.tmp rfl rfl) (show _ < 2 ^ 32 from hb22) (show _ < 2 ^ 32 from hb24)) ?_
 refine st (v:=.int .u32 ((((d / 2 ^ 1) ^^^ (3988292384 &&& (((0 - (((d &&& 1):Nat):Int)) % 4294967296).toNat))):Nat):Int)) (x_assign (.tmp rfl rfl)) ?_
 refine c_nil (n_block (n_then (c_region (st (v:=.int .i64 (((j:Nat):Int) + 1)) (x_add (k:=.i64) (a:=((j:Nat):Int)) (b:=1) (.tmp rfl hρ19) .const (w64 (by omega) (by omega))) ?_))))
 refine st (v:=.int .i64 (((j:Nat):Int) + 1)) (x_move (.tmp rfl rfl)) ?_
 refine c_nil ?_
 refine n_then ⟨_,_,rfl,?_,(j + 1),((d / 2 ^ 1) ^^^ (3988292384 &&& (((0 - (((d &&& 1):Nat):Int)) % 4294967296).toNat))),rfl,hρ16,hρ17,hρ18,rfl,(by omega),hb25,(by rw [cbit_code,he2]; rfl),hs20,rfl⟩
 omega
 have hp21:¬ ((((j:Nat):Int):Int) < 8):=of_decide_eq_false hc21
 refine c_cond_f (t:=false) (.tmp rfl (congrArg Value.bool hc21)) rfl ?_
 refine c_exit (x_then (x_then (x_here (n_block (n_then (c_region ?_))))))
 have hj8:j = 8:=by omega
 refine st (v:=.int .i64 (((i:Nat):Int) + 1)) (x_add (k:=.i64) (a:=((i:Nat):Int)) (b:=1) (.tmp rfl hρ18) .const (w64 (by omega) (by omega))) ?_
 refine st (v:=.int .i64 (((i:Nat):Int) + 1)) (x_move (.tmp rfl rfl)) ?_
 refine c_nil ?_
 refine n_then ⟨_,_,rfl,?_,(i + 1),d,hρ15,hρ16,hρ17,rfl,(by omega),hd,(by rw [he2,hj8,crcR_take (by omega),← he]; rfl),hs20,rfl⟩
 omega
 have hp7:¬ ((((i:Nat):Int):Int) < ((n:Nat):Int)):=of_decide_eq_false hc7
 refine c_cond_f (t:=false) (.tmp rfl (congrArg Value.bool hc7)) rfl ?_
 refine c_exit (x_then (x_then (x_here (n_then (c_seq (c_region (st (v:=.int .u32 ((cc:Nat):Int)) (x_move (.tmp rfl hρ2)) ?_)))))))
 refine st (v:=.int .u32 ((4294967295 - cc:Nat):Int)) (x_xorU (k:=.u32) (n:=cc) rfl (.tmp rfl rfl) (show _ < 2 ^ 32 from hc)) ?_
 refine st (v:=.int .u32 ((4294967295 - cc:Nat):Int)) (x_assign (.tmp rfl rfl)) ?_
 refine c_nil (n_then (c_ret (leave_ret (res_one (v:=.int .u32 ((4294967295 - cc:Nat):Int)) rfl (.mk rfl rfl)) ?_)))
 have hi2:i = bs.length:=by omega
 rw [hi2,List.take_length] at he
 exact ⟨by rw [he]; rfl,hs6⟩
set_option maxHeartbeats 8000000 in
theorem rsum_spec {H:Hp} {w:World} {L:List Res} (hs:St H w L) {A:Option Addr} {n c:Nat} {bs:List Nat} (hp:Bs H A n c bs) (hn:n ≤ 140737488355320):Calls Try.prog 46 #[.slice A n c] w (fun e w' => e = .returned (.int .u32 ((crc bs:Nat):Int))∧St H w' L):=by
 refine enter (args:=[.slice A n c]) (N:=36) Try.func46 rfl rfl rfl ?_
 have hle:=hp.le
 have hlen:=hp.len
 refine c_seq (c_region (st (v:=.int .u32 0) (x_assign .const) ?_))
 refine c_nil (n_then (c_seq (c_region (st (v:=.int .u32 4294967295) (x_assign .const) ?_))))
 refine c_nil (n_then (c_seq (c_seq (c_region (st (v:=.int .i64 0) (x_assign .const) ?_)))))
 refine c_nil (n_then (c_block (c_loop (fun ρ w mm => ∃ (i:Nat) (cc:Nat),ρ 0 = .slice A n c∧ρ 3 = .int .u32 ((cc:Nat):Int)∧ρ 4 = .int .i64 ((i:Nat):Int)∧(i ≤ n)∧(cc < 4294967296)∧(cc = crcR 4294967295 (bs.take i))∧St H w (L)∧mm = n - i) _ ⟨0,4294967295,rfl,rfl,rfl,(by omega),(by decide),rfl,hs,rfl⟩ ?_)))
 rintro ρ w mm ⟨i,cc,hρ2,hρ3,hρ4,hi,hc,he,hs5,rfl⟩
 refine c_seq (c_seq (c_region (st (v:=.int .i64 ((i:Nat):Int)) (x_move (.tmp rfl hρ4)) ?_)))
 refine st (v:=.slice A n c) (x_move (.tmp rfl hρ2)) ?_
 refine st (v:=.int .i64 ((n:Nat):Int)) (x_len (n:=n) Try.underlying33 (.tmp rfl rfl)) ?_
 refine st (v:=.bool (decide ((((i:Nat):Int):Int) < ((n:Nat):Int)))) (x_lss (k:=.i64) (a:=((i:Nat):Int)) (b:=((n:Nat):Int)) (.tmp rfl rfl) (.tmp rfl rfl)) ?_
 refine c_nil (n_then ?_)
 rcases Bool.eq_false_or_eq_true (decide ((((i:Nat):Int):Int) < ((n:Nat):Int))) with hc6 | hc6
 have hp6:(((i:Nat):Int):Int) < ((n:Nat):Int):=of_decide_eq_true hc6
 refine c_cond_t (t:=true) (.tmp rfl (congrArg Value.bool hc6)) rfl ?_
 refine c_skip (n_then (c_seq (c_block (c_seq (c_region (st (v:=.int .i64 0) (x_assign .const) ?_))))))
 refine c_nil (n_then (c_block (c_loop (fun ρ w mm => ∃ (j:Nat) (d:Nat),ρ 0 = .slice A n c∧ρ 3 = .int .u32 ((d:Nat):Int)∧ρ 4 = .int .i64 ((i:Nat):Int)∧ρ 5 = .int .i64 ((j:Nat):Int)∧(j ≤ 8)∧(d < 4294967296)∧(d = feed cc (fun i_ => (bs.getD i 0).testBit i_) j)∧St H w (L)∧mm = 8 - j) _ ⟨0,cc,hρ2,hρ3,hρ4,rfl,(by omega),hc,rfl,hs5,rfl⟩ ?_)))
 rintro ρ w mm ⟨j,d,hρ8,hρ9,hρ10,hρ11,hj,hd,he2,hs12,rfl⟩
 refine c_seq (c_seq (c_region (st (v:=.int .i64 ((j:Nat):Int)) (x_move (.tmp rfl hρ11)) ?_)))
 refine st (v:=.bool (decide ((((j:Nat):Int):Int) < 8))) (x_lss (k:=.i64) (a:=((j:Nat):Int)) (b:=8) (.tmp rfl rfl) .const) ?_
 refine c_nil (n_then ?_)
 rcases Bool.eq_false_or_eq_true (decide ((((j:Nat):Int):Int) < 8)) with hc13 | hc13
 have hp13:(((j:Nat):Int):Int) < 8:=of_decide_eq_true hc13
 refine c_cond_t (t:=true) (.tmp rfl (congrArg Value.bool hc13)) rfl ?_
 refine c_skip (n_then (c_seq (c_block (c_seq (c_region (st (v:=.int .u32 ((d:Nat):Int)) (x_move (.tmp rfl hρ9)) ?_))))))
 have hb14:(d &&& 1) < 4294967296:=Nat.lt_of_le_of_lt Nat.and_le_left hd
 refine st (v:=.int .u32 (((d &&& 1):Nat):Int)) (x_and (k:=.u32) (m:=d) (n:=1) rfl (.tmp rfl rfl) .const (show _ < 2 ^ 32 from hd) (show _ < 2 ^ 32 from (by decide))) ?_
 refine st (v:=.slice A n c) (x_move (.tmp rfl hρ8)) ?_
 refine st (v:=.int .i64 ((i:Nat):Int)) (x_move (.tmp rfl hρ10)) ?_
 obtain ⟨b15,o16,hA17,hc18⟩:=hp.get (i:=i) (by omega)
 refine st (v:=.pointer (some ⟨b15,(o16 + i * 1),none⟩)) (ixo33 (.tmp rfl rfl) hA17 (i:=((i:Nat):Int)) (.tmp rfl rfl) (by omega) (by omega) rfl) ?_
 refine st (v:=.int .u8 ((bs.getD i 0:Nat):Int)) (ld5 (.tmp rfl rfl) (hc18 hs12)) ?_
 refine st (v:=.int .i64 ((j:Nat):Int)) (x_move (.tmp rfl hρ11)) ?_
 have hb19:((bs.getD i 0) / 2 ^ j) < 256:=Nat.lt_of_le_of_lt (Nat.div_le_self _ _) (hp.lt.getD _)
 refine st (v:=.int .u8 ((((bs.getD i 0) / 2 ^ j):Nat):Int)) (x_shr (k:=.u8) (m:=(bs.getD i 0)) (b:=((j:Nat):Int)) rfl (.tmp rfl rfl) (.tmp rfl rfl) (by omega) (show _ < 2 ^ 8 from (hp.lt.getD _))) ?_
 have hb20:((bs.getD i 0) / 2 ^ j) < 4294967296:=Nat.lt_of_lt_of_le hb19 (by decide)
 refine st (v:=.int .u32 ((((bs.getD i 0) / 2 ^ j):Nat):Int)) (x_conv (k:=.u8) (a:=((((bs.getD i 0) / 2 ^ j):Nat):Int)) Try.underlying5 Try.underlying45 (.tmp rfl rfl) (wU rfl rfl hb20)) ?_
 have hb21:(((bs.getD i 0) / 2 ^ j) &&& 1) < 4294967296:=Nat.lt_of_le_of_lt Nat.and_le_left hb20
 refine st (v:=.int .u32 (((((bs.getD i 0) / 2 ^ j) &&& 1):Nat):Int)) (x_and (k:=.u32) (m:=((bs.getD i 0) / 2 ^ j)) (n:=1) rfl (.tmp rfl rfl) .const (show _ < 2 ^ 32 from hb20) (show _ < 2 ^ 32 from (by decide))) ?_
 have hb22:((d &&& 1) ^^^ (((bs.getD i 0) / 2 ^ j) &&& 1)) < 4294967296:=Nat.xor_lt_two_pow (n:=32) hb14 hb21
 refine st (v:=.int .u32 ((((d &&& 1) ^^^ (((bs.getD i 0) / 2 ^ j) &&& 1)):Nat):Int)) (x_xor (k:=.u32) (m:=(d &&& 1)) (n:=(((bs.getD i 0) / 2 ^ j) &&& 1)) rfl (.tmp rfl rfl) (.tmp rfl rfl) (show _ < 2 ^ 32 from hb14) (show _ < 2 ^ 32 from hb21)) ?_
 refine st (v:=.int .u32 ((((d &&& 1) ^^^ (((bs.getD i 0) / 2 ^ j) &&& 1)):Nat):Int)) (x_assign (.tmp rfl rfl)) ?_
 refine c_nil (n_then (c_seq (c_region (st (v:=.int .u32 ((d:Nat):Int)) (x_move (.tmp rfl hρ9)) ?_))))
 have hb23:(d / 2 ^ 1) < 4294967296:=Nat.lt_of_le_of_lt (Nat.div_le_self _ _) hd
 refine st (v:=.int .u32 (((d / 2 ^ 1):Nat):Int)) (x_shr (k:=.u32) (m:=d) (b:=1) rfl (.tmp rfl rfl) .const (by omega) (show _ < 2 ^ 32 from hd)) ?_
 refine st (v:=.int .u32 (((d / 2 ^ 1):Nat):Int)) (x_assign (.tmp rfl rfl)) ?_
 refine c_nil (n_then (c_seq (c_region (st (v:=.int .u32 ((((d &&& 1) ^^^ (((bs.getD i 0) / 2 ^ j) &&& 1)):Nat):Int)) (x_move (.tmp rfl rfl)) ?_))))
 refine st (v:=.bool (decide ((((((d &&& 1) ^^^ (((bs.getD i 0) / 2 ^ j) &&& 1)):Nat):Int):Int) = 1))) (x_eql (k:=.u32) (a:=((((d &&& 1) ^^^ (((bs.getD i 0) / 2 ^ j) &&& 1)):Nat):Int)) (b:=1) (.tmp rfl rfl) .const) ?_
 refine c_nil (n_then ?_)
 rcases Bool.eq_false_or_eq_true (decide ((((((d &&& 1) ^^^ (((bs.getD i 0) / 2 ^ j) &&& 1)):Nat):Int):Int) = 1)) with hc24 | hc24
 have hp24:(((((d &&& 1) ^^^ (((bs.getD i 0) / 2 ^ j) &&& 1)):Nat):Int):Int) = 1:=of_decide_eq_true hc24
 refine c_cond_t (t:=true) (.tmp rfl (congrArg Value.bool hc24)) rfl ?_
 refine c_region (st (v:=.int .u32 (((d / 2 ^ 1):Nat):Int)) (x_move (.tmp rfl rfl)) ?_)
 have hb25:((d / 2 ^ 1) ^^^ 3988292384) < 4294967296:=Nat.xor_lt_two_pow (n:=32) hb23 (by decide)
 refine st (v:=.int .u32 ((((d / 2 ^ 1) ^^^ 3988292384):Nat):Int)) (x_xor (k:=.u32) (m:=(d / 2 ^ 1)) (n:=3988292384) rfl (.tmp rfl rfl) .const (show _ < 2 ^ 32 from hb23) (show _ < 2 ^ 32 from (by decide))) ?_
 refine st (v:=.int .u32 ((((d / 2 ^ 1) ^^^ 3988292384):Nat):Int)) (x_assign (.tmp rfl rfl)) ?_
 refine c_nil (n_block (n_then (c_region (st (v:=.int .i64 ((j:Nat):Int)) (x_move (.tmp rfl hρ11)) ?_))))
 refine st (v:=.int .i64 (((j:Nat):Int) + 1)) (x_add (k:=.i64) (a:=((j:Nat):Int)) (b:=1) (.tmp rfl rfl) .const (w64 (by omega) (by omega))) ?_
 refine st (v:=.int .i64 (((j:Nat):Int) + 1)) (x_assign (.tmp rfl rfl)) ?_
 refine c_nil ?_
 refine n_then ⟨_,_,rfl,?_,(j + 1),((d / 2 ^ 1) ^^^ 3988292384),hρ8,rfl,hρ10,rfl,(by omega),hb25,(by rw [feed,← he2]; exact ref_yes hp24),hs12,rfl⟩
 omega
 have hp24:¬ ((((((d &&& 1) ^^^ (((bs.getD i 0) / 2 ^ j) &&& 1)):Nat):Int):Int) = 1):=of_decide_eq_false hc24
 refine c_cond_f (t:=false) (.tmp rfl (congrArg Value.bool hc24)) rfl ?_
 refine c_skip (n_block (n_then (c_region (st (v:=.int .i64 ((j:Nat):Int)) (x_move (.tmp rfl hρ11)) ?_))))
 refine st (v:=.int .i64 (((j:Nat):Int) + 1)) (x_add (k:=.i64) (a:=((j:Nat):Int)) (b:=1) (.tmp rfl rfl) .const (w64 (by omega) (by omega))) ?_
 refine st (v:=.int .i64 (((j:Nat):Int) + 1)) (x_assign (.tmp rfl rfl)) ?_
 refine c_nil ?_
 refine n_then ⟨_,_,rfl,?_,(j + 1),(d / 2 ^ 1),hρ8,rfl,hρ10,rfl,(by omega),hb23,(by rw [feed,← he2]; exact ref_no hp24),hs12,rfl⟩
 omega
 have hp13:¬ ((((j:Nat):Int):Int) < 8):=of_decide_eq_false hc13
 refine c_cond_f (t:=false) (.tmp rfl (congrArg Value.bool hc13)) rfl ?_
 refine c_exit (x_then (x_then (x_here (n_block (n_then (c_region ?_))))))
 have hj8:j = 8:=by omega
 refine st (v:=.int .i64 ((i:Nat):Int)) (x_move (.tmp rfl hρ10)) ?_
 refine st (v:=.int .i64 (((i:Nat):Int) + 1)) (x_add (k:=.i64) (a:=((i:Nat):Int)) (b:=1) (.tmp rfl rfl) .const (w64 (by omega) (by omega))) ?_
 refine st (v:=.int .i64 (((i:Nat):Int) + 1)) (x_assign (.tmp rfl rfl)) ?_
 refine c_nil ?_
 refine n_then ⟨_,_,rfl,?_,(i + 1),d,hρ8,hρ9,rfl,(by omega),hd,(by rw [he2,hj8,crcR_take (by omega),← he]; exact (cbyte_feed cc (hp.lt.getD i)).symm),hs12,rfl⟩
 omega
 have hp6:¬ ((((i:Nat):Int):Int) < ((n:Nat):Int)):=of_decide_eq_false hc6
 refine c_cond_f (t:=false) (.tmp rfl (congrArg Value.bool hc6)) rfl ?_
 refine c_exit (x_then (x_then (x_here (n_then (c_seq (c_region (st (v:=.int .u32 ((cc:Nat):Int)) (x_move (.tmp rfl hρ3)) ?_)))))))
 have hb26:(4294967295 - cc) < 4294967296:=by omega
 refine st (v:=.int .u32 (((4294967295 - cc):Nat):Int)) (x_sub (k:=.u32) (a:=4294967295) (b:=((cc:Nat):Int)) .const (.tmp rfl rfl) (wU rfl (by omega) hb26)) ?_
 refine st (v:=.int .u32 (((4294967295 - cc):Nat):Int)) (x_assign (.tmp rfl rfl)) ?_
 refine c_nil (n_then (c_ret (leave_ret (res_one (v:=.int .u32 (((4294967295 - cc):Nat):Int)) rfl (.mk rfl rfl)) ?_)))
 have hi2:i = bs.length:=by omega
 rw [hi2,List.take_length] at he
 exact ⟨by rw [he]; rfl,hs5⟩
end Go.Proofs.Ytlfihfmmhhcigaa
