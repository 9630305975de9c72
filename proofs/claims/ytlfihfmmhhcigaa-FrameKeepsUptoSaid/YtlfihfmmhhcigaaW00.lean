/- Steps of the proofs over the functions of this seat, printed by a program (gen.py) and checked by Lean. -/
import Derived.WalkKit
import Derived.Deep.QuietTactic
import Derived.BigQuiet
import Derived.Maps.AppendAt
import Derived.Laws.MakeOwn
import Derived.ProofKit
import Derived.OpenShut
import Derived.ShutString
import Derived.ChangeOld
import Derived.Below
import Derived.Carry
import Derived.SizedLaws
import Derived.LaidMore
import Derived.Stop.Joined
import Derived.MakeChecks
import Derived.Laws.BytesString
import Derived.Laws.Cover3
import Derived.Laws.Strings
import Derived.ChangeSlices
import Derived.Orders
import Derived.OrdersHeld
import Derived.Laws.Pointers
import Derived.Laws.Slices
set_option linter.unusedVariables false
set_option linter.unusedSimpArgs false
namespace Go.FM
open Go
def up (ρ:Nat → Value) (d:Nat) (v:Value):Nat → Value:=fun i => bif Nat.beq i d then v else ρ i
def en (N:Nat) (ρ:Nat → Value):Act:=⟨((List.range N).map ρ).toArray,[]⟩
theorem en_get (N:Nat) (ρ:Nat → Value) (t:Nat) (h:t < N):(en N ρ).tmps.getD t undef = ρ t:=by
  simp [en,Array.getD,h]
theorem en_put (N:Nat) (ρ:Nat → Value) (d:Nat) (v:Value):(en N ρ).put (some d) v = en N (up ρ d v):=by
  simp only [Act.put,en]
  congr 1
  apply Array.ext_getElem?
  intro i
  simp only [Array.getElem?_setIfInBounds,List.getElem?_toArray,List.getElem?_map,List.size_toArray,List.length_map,List.length_range]
  by_cases hd:d = i
  · subst hd
    by_cases hi:d < N
    · simp [hi,up]
    · simp [hi]
  · have:Nat.beq i d = false:=by
      cases h:Nat.beq i d with
      | false => rfl
      | true => exact absurd (Nat.eq_of_beq_eq_true h).symm hd
    simp only [if_neg hd]
    by_cases hi:i < N
    · simp [hi,up,this]
    · simp [hi]
theorem en_put_none (N:Nat) (ρ:Nat → Value) (v:Value):(en N ρ).put none v = en N ρ:=rfl
def Ev (N:Nat) (ρ:Nat → Value) (x:Operand) (v:Value):Prop:=(en N ρ).eval x = v
theorem Ev.tmp {N:Nat} {ρ:Nat → Value} {t:Nat} {v:Value} (h:Nat.blt t N = true) (e:ρ t = v):Ev N ρ (.tmp t) v:=by
  have h':t < N:=Nat.le_of_ble_eq_true h
  show (en N ρ).tmps.getD t undef = v
  rw [en_get N ρ t h']; exact e
theorem Ev.const {N:Nat} {ρ:Nat → Value} {v:Value}:Ev N ρ (.const v) v:=rfl
theorem Ev.func {N:Nat} {ρ:Nat → Value} {f:FuncId}:Ev N ρ (.func f) (.func (.func f) #[] #[]):=rfl
theorem enter {P:Program} {f:FuncId} {fn:Func} {c:Code} {args:List Value} {w:World} {R:Ending → World → Prop} {N:Nat}
    (hf:P.funcs[f]? = some fn) (hb:fn.body = some c) (hN:fn.ntmps = N) (hlen0:Nat.ble args.length N = true)
    (h:c.wp P (bodyPost P fn R) (en N (fun i => args.getD i undef)) w):Calls P f args.toArray w R:=by
  have hlen:args.length ≤ N:=Nat.le_of_ble_eq_true hlen0
  refine calls_of_wp hf hb ?_
  have:({ tmps:=args.toArray ++ Array.replicate (fn.ntmps - args.toArray.size) undef,defers:=[] }:Act) = en N (fun i => args.getD i undef):=by
    simp only [en]
    congr 1
    apply Array.ext_getElem?
    intro i
    subst hN
    simp only [List.size_toArray,Array.getElem?_append,List.getElem?_toArray,List.getElem?_map]
    by_cases h1:i < args.length
    · have h2:i < fn.ntmps:=by omega
      simp [h1,h2,List.getD_eq_getElem?_getD]
    · by_cases h2:i < fn.ntmps
      · have h3:i - args.length < fn.ntmps - args.length:=by omega
        simp [h1,h2,h3,List.getD_eq_getElem?_getD,Array.getElem?_replicate]
      · have h3:¬ i - args.length < fn.ntmps - args.length:=by omega
        simp [h1,h2,h3,Array.getElem?_replicate]
  rw [this]
  exact h
theorem leave_ret {P:Program} {fn:Func} {R:Ending → World → Prop} {N:Nat} {ρ:Nat → Value} {w:World} {v:Value}
    (hr:(results fn (en N ρ).tmps).run P w = .ok v w) (h:R (.returned v) w):bodyPost P fn R .ret (en N ρ) w:=⟨rfl,v,hr,h⟩
theorem leave_end {P:Program} {fn:Func} {R:Ending → World → Prop} {N:Nat} {ρ:Nat → Value} {w:World} {v:Value}
    (hr:(results fn (en N ρ).tmps).run P w = .ok v w) (h:R (.returned v) w):bodyPost P fn R .normal (en N ρ) w:=⟨rfl,v,hr,h⟩
def Rv (P:Program) (N:Nat) (ρ:Nat → Value) (w:World):ResultVar → Value → Prop
  | .tmp t,v => t < N∧ρ t = v
  | .cell a t,v => ∃ p,a < N∧ρ a = .pointer (some p)∧(loadVar t p).run P w = .ok v w
theorem res_none {P:Program} {fn:Func} {N:Nat} {ρ:Nat → Value} {w:World} (h:fn.results = #[]):(results fn (en N ρ).tmps).run P w = .ok (.tuple #[]) w:=by
  simp [results,h]
def resOne (P:Program) (tmps:Array Value):ResultVar → Sem Value
  | .tmp t => pure (tmps.getD t undef)
  | .cell a t => do loadVar t (← asAddr (tmps.getD a undef))
theorem resOne_run {P:Program} {N:Nat} {ρ:Nat → Value} {w:World} {r:ResultVar} {v:Value} (h:Rv P N ρ w r v):(resOne P (en N ρ).tmps r).run P w = .ok v w:=by
  cases r with
  | tmp t => obtain ⟨h1,rfl⟩:=h; simp [resOne,en_get N ρ t h1]
  | cell a t => obtain ⟨p,h1,h2,h3⟩:=h; simp [resOne,en_get N ρ a h1,h2,asAddr,h3]
theorem res_eq (P:Program) (fn:Func) (tmps:Array Value):results fn tmps = (do
    let vs ← fn.results.mapM (resOne P tmps)
    pure (if h:vs.size = 1 then vs[0] else .tuple vs)):=by
  unfold results
  congr 1
def Rvs (P:Program) (N:Nat) (ρ:Nat → Value) (w:World):List ResultVar → List Value → Prop
  | [],[] => True
  | r::rs,v::vs => Rv P N ρ w r v∧Rvs P N ρ w rs vs
  | _,_ => False
theorem res_list {P:Program} {N:Nat} {ρ:Nat → Value} {w:World}:∀ (rs:List ResultVar) (vs:List Value),Rvs P N ρ w rs vs → (rs.mapM (resOne P (en N ρ).tmps)).run P w = .ok vs w
  | [],[],_ => by simp
  | r::rs,v::vs,⟨h,hs⟩ => by
    simp [List.mapM_cons,resOne_run h,res_list rs vs hs]
theorem res_all {P:Program} {fn:Func} {N:Nat} {ρ:Nat → Value} {w:World} {rs:List ResultVar} {vs:List Value} (h:fn.results = rs.toArray) (hv:Rvs P N ρ w rs vs) :
    (results fn (en N ρ).tmps).run P w = .ok (if h:vs.toArray.size = 1 then vs.toArray[0] else .tuple vs.toArray) w:=by
  rw [res_eq P,h]
  simp [List.mapM_toArray,res_list rs vs hv]
theorem res_one {P:Program} {fn:Func} {N:Nat} {ρ:Nat → Value} {w:World} {r:ResultVar} {v:Value} (h:fn.results = #[r]) (hv:Rv P N ρ w r v):(results fn (en N ρ).tmps).run P w = .ok v w:=by
  have:=res_all (P:=P) (w:=w) (rs:=[r]) (vs:=[v]) h ⟨hv,trivial⟩
  simpa using this
theorem res_two {P:Program} {fn:Func} {N:Nat} {ρ:Nat → Value} {w:World} {r s:ResultVar} {v u:Value} (h:fn.results = #[r,s]) (hv:Rv P N ρ w r v) (hu:Rv P N ρ w s u) :
    (results fn (en N ρ).tmps).run P w = .ok (.tuple #[v,u]) w:=by
  have:=res_all (P:=P) (w:=w) (rs:=[r,s]) (vs:=[v,u]) h ⟨hv,hu,trivial⟩
  simpa using this
theorem Rv.mk {P:Program} {N:Nat} {ρ:Nat → Value} {w:World} {t:Nat} {v:Value} (h:Nat.blt t N = true) (e:ρ t = v):Rv P N ρ w (.tmp t) v:=⟨Nat.le_of_ble_eq_true h,e⟩
theorem Rv.mkCell {P:Program} {N:Nat} {ρ:Nat → Value} {w:World} {t ty:Nat} {p:Addr} {v:Value} (h:Nat.blt t N = true) (e:ρ t = .pointer (some p)) (hl:(loadVar ty p).run P w = .ok v w):Rv P N ρ w (.cell t ty) v:=⟨p,Nat.le_of_ble_eq_true h,e,hl⟩
section
variable {P:Program} {Q:Exit → Act → World → Prop} {N:Nat} {ρ:Nat → Value} {w:World}
theorem c_seq {x y:Code} (h:x.wp P (Exit.then (y.wp P Q) Q) (en N ρ) w):(Code.seq x y).wp P Q (en N ρ) w:=wp_seq h
theorem c_block {id:Nat} {c:Code} (h:c.wp P (Exit.inBlock id Q) (en N ρ) w):(Code.block id c).wp P Q (en N ρ) w:=wp_block h
theorem c_skip (h:Q .normal (en N ρ) w):Code.skip.wp P Q (en N ρ) w:=wp_skip h
theorem c_exit {id:Nat} (h:Q (.exit id) (en N ρ) w):(Code.exit id).wp P Q (en N ρ) w:=wp_exit h
theorem c_ret (h:Q .ret (en N ρ) w):Code.ret.wp P Q (en N ρ) w:=wp_ret h
theorem c_cond_t {c:Operand} {x y:Code} {t:Bool} (hc:Ev N ρ c (.bool t)) (h:t = true) (ht:x.wp P Q (en N ρ) w):(Code.cond c x y).wp P Q (en N ρ) w :=
  wp_cond_split hc (fun _ => ht) (fun h' => by rw [h] at h'; cases h')
theorem c_cond_f {c:Operand} {x y:Code} {t:Bool} (hc:Ev N ρ c (.bool t)) (h:t = false) (hf:y.wp P Q (en N ρ) w):(Code.cond c x y).wp P Q (en N ρ) w :=
  wp_cond_split hc (fun h' => by rw [h] at h'; cases h') (fun _ => hf)
theorem c_region {id:Nat} {l:List Oper} (h:wpList P l.toArray Q l (en N ρ) w):(Code.region id l.toArray false).wp P Q (en N ρ) w:=wp_region_lit h
theorem c_nil {ops:Array Oper} (h:Q .normal (en N ρ) w):wpList P ops Q [] (en N ρ) w:=h
theorem n_then {K:Act → World → Prop} {a:Act} (h:K a w):Exit.then K Q .normal a w:=h
theorem n_block {id:Nat} {a:Act} (h:Q .normal a w):Exit.inBlock id Q .normal a w:=h
theorem x_then {K:Act → World → Prop} {id:Nat} {a:Act} (h:Q (.exit id) a w):Exit.then K Q (.exit id) a w:=h
theorem x_here {id:Nat} {a:Act} (h:Q .normal a w):Exit.inBlock id Q (.exit id) a w:=by simpa [Exit.inBlock] using h
theorem x_block {id id':Nat} {a:Act} (hn:Nat.beq id' id = false) (h:Q (.exit id') a w):Exit.inBlock id Q (.exit id') a w:=by
  have:id' ≠ id:=fun e => by rw [e] at hn; simp at hn
  simpa [Exit.inBlock,this] using h
theorem r_then {K:Act → World → Prop} {a:Act} (h:Q .ret a w):Exit.then K Q .ret a w:=h
theorem r_block {id:Nat} {a:Act} (h:Q .ret a w):Exit.inBlock id Q .ret a w:=h
theorem c_loop {c:Code} (I:(Nat → Value) → World → Nat → Prop) (k0:Nat) (h0:I ρ w k0)
    (round:∀ ρ w k,I ρ w k → c.wp P (Exit.then (fun a' w' => ∃ ρ' k',a' = en N ρ'∧k' < k∧I ρ' w' k') Q) (en N ρ) w):(Code.loop c).wp P Q (en N ρ) w:=by
  intro b k cs
  have key:∀ n ρ w,I ρ w n →
      ∃ e a' w',Q e a' w'∧Arrives P (lone (b.at (en N ρ) (.code c::.inLoop c::k)) cs w) b k cs e a' w':=by
    intro n
    induction n using Nat.strongRecOn with
    | _ n ih =>
      intro ρ w hI
      obtain ⟨e,a₁,w₁,hq,harr⟩:=round ρ w n hI b (.inLoop c::k) cs
      cases e with
      | normal =>
        obtain ⟨ρ',k',rfl,hlt,hI₁⟩:=hq
        obtain ⟨e₂,a₂,w₂,hq₂,harr₂⟩:=ih k' hlt ρ' w₁ hI₁
        exact ⟨e₂,a₂,w₂,hq₂,.of_steps (Steps.trans harr (.one step_inLoop)) harr₂⟩
      | exit id => exact ⟨_,a₁,w₁,hq,.pass (x:=.inLoop c) rfl (fun _ _ => .inl (by simp)) harr⟩
      | goto l => exact ⟨_,a₁,w₁,hq,.pass (x:=.inLoop c) rfl (fun _ _ => .inl (by simp)) harr⟩
      | ret => exact ⟨_,a₁,w₁,hq,.pass (x:=.inLoop c) rfl (fun _ _ => .inl (by simp)) harr⟩
      | panic ch => exact ⟨_,a₁,w₁,hq,.pass (x:=.inLoop c) rfl (fun _ _ => .inl (by simp)) harr⟩
      | outgrown => exact ⟨_,a₁,w₁,hq,.pass (x:=.inLoop c) rfl (fun _ _ => .inl (by simp)) harr⟩
  obtain ⟨e,a',w',hq,harr⟩:=key k0 ρ w h0
  exact ⟨e,a',w',hq,.of_steps (.one step_loop) harr⟩
end
end Go.FM

set_option linter.unusedVariables false
set_option linter.unusedSimpArgs false
namespace Go.FM
open Go
section
variable {P:Program} {Q:Exit → Act → World → Prop} {N:Nat} {ρ:Nat → Value} {w w':World} {ops:Array Oper} {rest:List Oper}
variable {d ty:Nat} {pos:String} {aft:Array Edge} {g:Option (Nat × Bool)}
def Ex (P:Program) (N:Nat) (ρ:Nat → Value) (w:World) (op:Op) (ty:TypeId) (v:Value) (w':World):Prop :=
  ∀ d pos aft g,(execOp (en N ρ).eval ⟨d,op,ty,pos,aft,g⟩).run P w = .ok (.value v) w'
def Ex0 (P:Program) (N:Nat) (ρ:Nat → Value) (w:World) (op:Op) (ty:TypeId) (w':World):Prop :=
  ∀ d pos aft g,(execOp (en N ρ).eval ⟨d,op,ty,pos,aft,g⟩).run P w = .ok .skip w'
theorem st {op:Op} {v:Value} (hr:Ex P N ρ w op ty v w') (h:wpList P ops Q rest (en N (up ρ d v)) w'):wpList P ops Q (⟨some d,op,ty,pos,aft,none⟩::rest) (en N ρ) w:=by
  refine wpList_plain rfl fun K hK => ?_
  unfold Oper.wp
  rw [hr]
  simp only [Oper.upon,en_put]
  exact hK _ _ h
theorem st0 {op:Op} (hr:Ex0 P N ρ w op ty w') (h:wpList P ops Q rest (en N ρ) w'):wpList P ops Q (⟨none,op,ty,pos,aft,none⟩::rest) (en N ρ) w:=by
  refine wpList_plain rfl fun K hK => ?_
  unfold Oper.wp
  rw [hr]
  simp only [Oper.upon,en_put_none]
  exact hK _ _ h
theorem yl {j dj:Nat} {b:Bool} (ho:(ops[j]?).bind (·.dst) = some dj) (hd:Nat.blt dj N = true) (hv:ρ dj = .bool b):yielded ops (en N ρ).tmps j = some b:=by
  have h1:dj < N:=Nat.le_of_ble_eq_true hd
  unfold yielded
  rw [ho]
  simp [en,h1,hv]
theorem g_yes {o:Option Tmp} {op:Op} {j:Nat} {b:Bool} (hy:yielded ops (en N ρ).tmps j = some b) (h:wpList P ops Q (⟨o,op,ty,pos,aft,none⟩::rest) (en N ρ) w):wpList P ops Q (⟨o,op,ty,pos,aft,some (j,b)⟩::rest) (en N ρ) w:=by
  have h':=h
  unfold wpList at h' ⊢
  have e1:Region.wanted ⟨o,op,ty,pos,aft,none⟩ (yielded ops (en N ρ).tmps) = true:=by simp [Region.wanted]
  have e2:Region.wanted ⟨o,op,ty,pos,aft,some (j,b)⟩ (yielded ops (en N ρ).tmps) = true:=by simp [Region.wanted,hy]
  rw [if_pos e1] at h'
  rw [if_pos e2]
  exact h'
theorem g_no {op:Op} {j:Nat} {b c:Bool} (hy:yielded ops (en N ρ).tmps j = some c) (hn:(c == b) = false) (h:wpList P ops Q rest (en N (up ρ d (.tuple #[]))) w):wpList P ops Q (⟨some d,op,ty,pos,aft,some (j,b)⟩::rest) (en N ρ) w:=by
  unfold wpList
  have e2:Region.wanted ⟨some d,op,ty,pos,aft,some (j,b)⟩ (yielded ops (en N ρ).tmps) = false:=by
    simp [Region.wanted,hy]
    simpa using hn
  rw [if_neg (by simp [e2]),en_put]
  exact h
theorem st_call {f:FuncId} {fv:Operand} {cap:Array Value} {xs:Array Operand} {ats:Array TypeId} {vs:Array Value} {fn:Func} {c:Code} {R:Ending → World → Prop}
    (hfv:Ev N ρ fv (.func (.func f) #[] cap)) (hvs:xs.map (en N ρ).eval = vs) (hf:P.funcs[f]? = some fn) (hn:fn.name ≠ "runtime.NumGoroutine") (hb:fn.body.isSome = true)
    (hc:Calls P f (vs ++ cap) w R) (h:∀ e w',R e w' → ∃ v,e = .returned v∧wpList P ops Q rest (en N (up ρ d v)) w') :
    wpList P ops Q (⟨some d,.call { callee:=.value fv,args:=xs,argTypes:=ats },ty,pos,aft,none⟩::rest) (en N ρ) w:=by
  refine wpList_plain rfl fun K hK => ?_
  unfold Oper.wp
  have hfv':(en N ρ).eval fv = .func (.func f) #[] cap:=hfv
  have hb':fn.body ≠ none:=fun hh => by rw [hh] at hb; cases hb
  have:(execOp (en N ρ).eval ⟨some d,.call { callee:=.value fv,args:=xs,argTypes:=ats },ty,pos,aft,none⟩).run P w = .ok (.enter f (vs ++ cap)) w:=by
    simp [execOp,resolve,Deferred.ofValue,hfv',hvs,invoke,callFunc,hf,hn,hb']
  rw [this]
  simp only [Oper.upon]
  refine hc.mono fun e w' hR => ?_
  obtain ⟨v,rfl,h'⟩:=h e w' hR
  simp only [en_put]
  exact hK _ _ h'
theorem x_move {x:Operand} {v:Value} (hx:Ev N ρ x v):Ex P N ρ w (.move x) ty v w:=fun _ _ _ _ => by
  have:(en N ρ).eval x = v:=hx
  simp [execOp,this]
theorem x_assign {x:Operand} {v:Value} (hx:Ev N ρ x v):Ex P N ρ w (.assign x) ty v w:=fun _ _ _ _ => by
  have:(en N ρ).eval x = v:=hx
  simp [execOp,this]
theorem x_pick_t {c x y:Operand} {v:Value} (hc:Ev N ρ c (.bool true)) (hx:Ev N ρ x v):Ex P N ρ w (.pick c x y) ty v w:=fun _ _ _ _ => by
  have h1:(en N ρ).eval c = .bool true:=hc
  have h2:(en N ρ).eval x = v:=hx
  simp [execOp,h1,h2,asBool]
theorem x_pick_f {c x y:Operand} {v:Value} (hc:Ev N ρ c (.bool false)) (hy:Ev N ρ y v):Ex P N ρ w (.pick c x y) ty v w:=fun _ _ _ _ => by
  have h1:(en N ρ).eval c = .bool false:=hc
  have h2:(en N ρ).eval y = v:=hy
  simp [execOp,h1,h2,asBool]
theorem x_extract {x:Operand} {i:Nat} {vs:Array Value} {v:Value} (hx:Ev N ρ x (.tuple vs)) (hv:vs[i]? = some v):Ex P N ρ w (.extract x i) ty v w:=fun _ _ _ _ => by
  have h1:(en N ρ).eval x = .tuple vs:=hx
  simp [execOp,h1,Instr.extract,hv]
theorem x_nilCheck {x:Operand} {a:Addr} (hx:Ev N ρ x (.pointer (some a))):Ex P N ρ w (.nilCheck x) ty (.pointer (some a)) w:=fun _ _ _ _ => by
  have h1:(en N ρ).eval x = .pointer (some a):=hx
  simp [execOp,h1]
theorem x_not {x:Operand} {b:Bool} {xt:TypeId} (hx:Ev N ρ x (.bool b)):Ex P N ρ w (.unOp .not xt x) ty (.bool (!b)) w:=fun _ _ _ _ => by
  have h1:(en N ρ).eval x = .bool b:=hx
  simp [execOp,h1,Op.unary]
section
variable {k:IntKind} {a b r:Int} {x y:Operand} {xt yt:TypeId}
theorem eqGuard_int (op:BinOp) (t:TypeId) (x y:Operand) (k k':IntKind) (a b:Int) (w:World):(eqGuard op t x y (.int k a) (.int k' b)).run P w = .ok () w:=by
  unfold eqGuard
  split <;> rfl
theorem x_add (hx:Ev N ρ x (.int k a)) (hy:Ev N ρ y (.int k b)) (hr:k.wrap (a + b) = r):Ex P N ρ w (.binOp .add xt x y yt) ty (.int k r) w:=fun _ _ _ _ => by
  have h1:(en N ρ).eval x = .int k a:=hx
  have h2:(en N ρ).eval y = .int k b:=hy
  simp [execOp,h1,h2,eqGuard_int,binOp,Op.intArith,hr]
theorem x_sub (hx:Ev N ρ x (.int k a)) (hy:Ev N ρ y (.int k b)) (hr:k.wrap (a - b) = r):Ex P N ρ w (.binOp .sub xt x y yt) ty (.int k r) w:=fun _ _ _ _ => by
  have h1:(en N ρ).eval x = .int k a:=hx
  have h2:(en N ρ).eval y = .int k b:=hy
  simp [execOp,h1,h2,eqGuard_int,binOp,Op.intArith,hr]
theorem x_mul (hx:Ev N ρ x (.int k a)) (hy:Ev N ρ y (.int k b)) (hr:k.wrap (a * b) = r):Ex P N ρ w (.binOp .mul xt x y yt) ty (.int k r) w:=fun _ _ _ _ => by
  have h1:(en N ρ).eval x = .int k a:=hx
  have h2:(en N ρ).eval y = .int k b:=hy
  simp [execOp,h1,h2,eqGuard_int,binOp,Op.intArith,hr]
theorem x_quo (hx:Ev N ρ x (.int k a)) (hy:Ev N ρ y (.int k b)) (h0:b ≠ 0) (hr:k.wrap (a.tdiv b) = r):Ex P N ρ w (.binOp .quo xt x y yt) ty (.int k r) w:=fun _ _ _ _ => by
  have h1:(en N ρ).eval x = .int k a:=hx
  have h2:(en N ρ).eval y = .int k b:=hy
  simp [execOp,h1,h2,eqGuard_int,binOp,Op.intDiv,hr,h0]
theorem x_rem (hx:Ev N ρ x (.int k a)) (hy:Ev N ρ y (.int k b)) (h0:b ≠ 0) (hr:a.tmod b = r):Ex P N ρ w (.binOp .rem xt x y yt) ty (.int k r) w:=fun _ _ _ _ => by
  have h1:(en N ρ).eval x = .int k a:=hx
  have h2:(en N ρ).eval y = .int k b:=hy
  simp [execOp,h1,h2,eqGuard_int,binOp,Op.intDiv,hr,h0]
theorem x_eql (hx:Ev N ρ x (.int k a)) (hy:Ev N ρ y (.int k b)):Ex P N ρ w (.binOp .eql xt x y yt) ty (.bool (decide (a = b))) w:=fun _ _ _ _ => by
  have h1:(en N ρ).eval x = .int k a:=hx
  have h2:(en N ρ).eval y = .int k b:=hy
  simp [execOp,h1,h2,eqGuard_int,binOp,Op.intCmp]
  rfl
theorem x_neq (hx:Ev N ρ x (.int k a)) (hy:Ev N ρ y (.int k b)):Ex P N ρ w (.binOp .neq xt x y yt) ty (.bool (decide (a ≠ b))) w:=fun _ _ _ _ => by
  have h1:(en N ρ).eval x = .int k a:=hx
  have h2:(en N ρ).eval y = .int k b:=hy
  simp [execOp,h1,h2,eqGuard_int,binOp,Op.intCmp,bne]
  rfl
theorem x_lss (hx:Ev N ρ x (.int k a)) (hy:Ev N ρ y (.int k b)):Ex P N ρ w (.binOp .lss xt x y yt) ty (.bool (decide (a < b))) w:=fun _ _ _ _ => by
  have h1:(en N ρ).eval x = .int k a:=hx
  have h2:(en N ρ).eval y = .int k b:=hy
  simp [execOp,h1,h2,eqGuard_int,binOp,Op.intCmp]
theorem x_leq (hx:Ev N ρ x (.int k a)) (hy:Ev N ρ y (.int k b)):Ex P N ρ w (.binOp .leq xt x y yt) ty (.bool (decide (a ≤ b))) w:=fun _ _ _ _ => by
  have h1:(en N ρ).eval x = .int k a:=hx
  have h2:(en N ρ).eval y = .int k b:=hy
  simp [execOp,h1,h2,eqGuard_int,binOp,Op.intCmp]
theorem x_gtr (hx:Ev N ρ x (.int k a)) (hy:Ev N ρ y (.int k b)):Ex P N ρ w (.binOp .gtr xt x y yt) ty (.bool (decide (b < a))) w:=fun _ _ _ _ => by
  have h1:(en N ρ).eval x = .int k a:=hx
  have h2:(en N ρ).eval y = .int k b:=hy
  simp [execOp,h1,h2,eqGuard_int,binOp,Op.intCmp]
theorem x_geq (hx:Ev N ρ x (.int k a)) (hy:Ev N ρ y (.int k b)):Ex P N ρ w (.binOp .geq xt x y yt) ty (.bool (decide (b ≤ a))) w:=fun _ _ _ _ => by
  have h1:(en N ρ).eval x = .int k a:=hx
  have h2:(en N ρ).eval y = .int k b:=hy
  simp [execOp,h1,h2,eqGuard_int,binOp,Op.intCmp]
theorem x_neg (hx:Ev N ρ x (.int k a)) (hr:k.wrap (0 - a) = r):Ex P N ρ w (.unOp .neg xt x) ty (.int k r) w:=fun _ _ _ _ => by
  have h1:(en N ρ).eval x = .int k a:=hx
  simp only [execOp,h1,Op.unary,Op.intArith]
  rw [← hr]
  rfl
theorem x_conv {k':IntKind} {u:TypeDesc} (hs:P.underlying xt = some u) (hd:P.underlying yt = some (.int k')) (hx:Ev N ρ x (.int k a)) (hr:k'.wrap a = r):Ex P N ρ w (.convert xt yt x) ty (.int k' r) w:=fun _ _ _ _ => by
  have h1:(en N ρ).eval x = .int k a:=hx
  simp [execOp,h1,convert,run_underlying hs,run_underlying hd,Conv.intToInt,hr]
theorem ofInt_nat (n a:Nat) (h:a < 2 ^ n):(BitVec.ofInt n (a:Int)).toNat = a:=by
  rw [BitVec.toNat_ofInt]
  have:((a:Int) % ((2 ^ n:Nat):Int)) = (a:Int):=Int.emod_eq_of_lt (by omega) (by exact_mod_cast h)
  rw [this]; simp
theorem wrap_nat (k:IntKind) (hk:k.signed = false) (a:Nat) (h:a < 2 ^ k.bits):k.wrap (a:Int) = a:=by
  unfold IntKind.wrap
  have:((a:Int) % ((2:Int) ^ k.bits)) = (a:Int):=Int.emod_eq_of_lt (by omega) (by exact_mod_cast h)
  simp [hk,this]
section
variable {m n:Nat}
theorem x_and (hk:k.signed = false) (hx:Ev N ρ x (.int k (m:Int))) (hy:Ev N ρ y (.int k (n:Int))) (hm:m < 2 ^ k.bits) (hn:n < 2 ^ k.bits):Ex P N ρ w (.binOp .and xt x y yt) ty (.int k ((m &&& n:Nat):Int)) w:=fun _ _ _ _ => by
  have h1:(en N ρ).eval x = .int k m:=hx
  have h2:(en N ρ).eval y = .int k n:=hy
  have:m &&& n < 2 ^ k.bits:=Nat.lt_of_le_of_lt Nat.and_le_left hm
  simp [execOp,h1,h2,eqGuard_int,binOp,Op.intBits,BitVec.toNat_and,ofInt_nat _ _ hm,ofInt_nat _ _ hn,Nat.mod_eq_of_lt hm,Nat.mod_eq_of_lt hn]
  exact wrap_nat k hk _ this
theorem x_or (hk:k.signed = false) (hx:Ev N ρ x (.int k (m:Int))) (hy:Ev N ρ y (.int k (n:Int))) (hm:m < 2 ^ k.bits) (hn:n < 2 ^ k.bits):Ex P N ρ w (.binOp .or xt x y yt) ty (.int k ((m ||| n:Nat):Int)) w:=fun _ _ _ _ => by
  have h1:(en N ρ).eval x = .int k m:=hx
  have h2:(en N ρ).eval y = .int k n:=hy
  have:m ||| n < 2 ^ k.bits:=Nat.or_lt_two_pow hm hn
  simp [execOp,h1,h2,eqGuard_int,binOp,Op.intBits,BitVec.toNat_or,ofInt_nat _ _ hm,ofInt_nat _ _ hn,Nat.mod_eq_of_lt hm,Nat.mod_eq_of_lt hn]
  exact wrap_nat k hk _ this
theorem x_xor (hk:k.signed = false) (hx:Ev N ρ x (.int k (m:Int))) (hy:Ev N ρ y (.int k (n:Int))) (hm:m < 2 ^ k.bits) (hn:n < 2 ^ k.bits):Ex P N ρ w (.binOp .xor xt x y yt) ty (.int k ((m ^^^ n:Nat):Int)) w:=fun _ _ _ _ => by
  have h1:(en N ρ).eval x = .int k m:=hx
  have h2:(en N ρ).eval y = .int k n:=hy
  have:m ^^^ n < 2 ^ k.bits:=Nat.xor_lt_two_pow hm hn
  simp [execOp,h1,h2,eqGuard_int,binOp,Op.intBits,BitVec.toNat_xor,ofInt_nat _ _ hm,ofInt_nat _ _ hn,Nat.mod_eq_of_lt hm,Nat.mod_eq_of_lt hn]
  exact wrap_nat k hk _ this
theorem x_xorU (hk:k.signed = false) (hx:Ev N ρ x (.int k (n:Int))) (hn:n < 2 ^ k.bits):Ex P N ρ w (.unOp .xor xt x) ty (.int k ((2 ^ k.bits - 1 - n:Nat):Int)) w:=fun _ _ _ _ => by
  have h2:(en N ρ).eval x = .int k n:=hx
  have hp:0 < 2 ^ k.bits:=Nat.two_pow_pos _
  have hmax:k.max = ((2 ^ k.bits - 1:Nat):Int):=by
    unfold IntKind.max
    rw [if_neg (by simp [hk]),show ((2:Int) ^ k.bits) = ((2 ^ k.bits:Nat):Int) by push_cast; rfl]
    omega
  have e:(2 ^ k.bits - 1) ^^^ n = 2 ^ k.bits - 1 - n:=by
    have:=BitVec.toNat_not (x:=BitVec.ofNat k.bits n)
    rw [BitVec.not_def,BitVec.toNat_xor,BitVec.toNat_ofNat,Nat.mod_eq_of_lt hn,BitVec.toNat_allOnes] at this
    exact this
  simp [execOp,h2,Op.unary,Op.intBits,hk,hmax,BitVec.toNat_xor,ofInt_nat _ _ hn,ofInt_nat _ _ (show 2 ^ k.bits - 1 < 2 ^ k.bits by omega),Nat.mod_eq_of_lt hn]
  rw [e]
  exact wrap_nat k hk _ (by omega)
theorem x_shl {k':IntKind} (hk:k.signed = false) (hx:Ev N ρ x (.int k (m:Int))) (hy:Ev N ρ y (.int k' b)) (h0:0 ≤ b):Ex P N ρ w (.binOp .shl xt x y yt) ty (.int k ((m * 2 ^ b.toNat % 2 ^ k.bits:Nat):Int)) w:=fun _ _ _ _ => by
  have h1:(en N ρ).eval x = .int k m:=hx
  have h2:(en N ρ).eval y = .int k' b:=hy
  have hnn:¬ b < 0:=by omega
  have e:k.wrap ((m:Int) * 2 ^ (min b.toNat k.bits)) = ((m * 2 ^ b.toNat % 2 ^ k.bits:Nat):Int):=by
    unfold IntKind.wrap
    simp only [hk,Bool.false_and]
    rw [if_neg (by simp)]
    rcases Nat.le_total b.toNat k.bits with h | h
    · rw [Nat.min_eq_left h]; push_cast; rfl
    · rw [Nat.min_eq_right h]
      have:b.toNat = k.bits + (b.toNat - k.bits):=by omega
      have e1:m * 2 ^ b.toNat % 2 ^ k.bits = 0:=by
        rw [this,Nat.pow_add,← Nat.mul_assoc,Nat.mul_comm m,Nat.mul_assoc]; exact Nat.mul_mod_right _ _
      rw [e1]; simp
  simp [execOp,h1,h2,eqGuard_int,binOp,Op.shift,hnn]
  rw [e]; push_cast; rfl
theorem x_shr {k':IntKind} (hk:k.signed = false) (hx:Ev N ρ x (.int k (m:Int))) (hy:Ev N ρ y (.int k' b)) (h0:0 ≤ b) (hm:m < 2 ^ k.bits):Ex P N ρ w (.binOp .shr xt x y yt) ty (.int k ((m / 2 ^ b.toNat:Nat):Int)) w:=fun _ _ _ _ => by
  have h1:(en N ρ).eval x = .int k m:=hx
  have h2:(en N ρ).eval y = .int k' b:=hy
  have hnn:¬ b < 0:=by omega
  have e:(m:Int).fdiv (2 ^ (min b.toNat k.bits)) = ((m / 2 ^ b.toNat:Nat):Int):=by
    rw [show ((2:Int) ^ (min b.toNat k.bits)) = ((2 ^ (min b.toNat k.bits):Nat):Int) by push_cast; rfl,Int.fdiv_eq_ediv_of_nonneg _ (Int.natCast_nonneg _)]
    rcases Nat.le_total b.toNat k.bits with h | h
    · rw [Nat.min_eq_left h]; push_cast; rfl
    · rw [Nat.min_eq_right h]
      have e1:m / 2 ^ k.bits = 0:=Nat.div_eq_of_lt hm
      have e2:m / 2 ^ b.toNat = 0:=Nat.div_eq_of_lt (Nat.lt_of_lt_of_le hm (Nat.pow_le_pow_right (by omega) h))
      rw [e2]; rw [← Int.natCast_ediv,e1]
  simp [execOp,h1,h2,eqGuard_int,binOp,Op.shift,hnn]
  rw [e]; push_cast; rfl
end
end
section
variable {x y:Operand} {xt yt et:TypeId} {A:Option Addr} {n c:Nat} {i:Int} {k:IntKind}
theorem x_len {at_:TypeId} (hu:P.underlying at_ = some (.slice et)) (hx:Ev N ρ x (.slice A n c)):Ex P N ρ w (.call { callee:=.builtin .len,args:=#[x],argTypes:=#[at_] }) ty (.int .i64 (n:Int)) w:=fun _ _ _ _ => by
  have h1:(en N ρ).eval x = .slice A n c:=hx
  simp [execOp,resolve,invoke,builtin,h1,Builtin.len_,run_underlying hu,goInt]
theorem x_fieldAddr {fs:Array Field} {f:Nat} {fd:Field} {ad:Addr} {i0:TypeInfo} (hu:P.underlying xt = some (.struct fs)) (hf:fs[f]? = some fd) (hi:P.info? fd.type = some i0) (hz:i0.size ≠ 0) (hx:Ev N ρ x (.pointer (some ad))) :
    Ex P N ρ w (.fieldAddr xt x f) ty (.pointer (some (ad.add fd.offset))) w:=fun _ _ _ _ => by
  have h1:(en N ρ).eval x = .pointer (some ad):=hx
  simp [execOp,h1,Instr.fieldAt,run_underlying hu,hf,Instr.sureAddr,fieldPlace,sizeOf,typeInfo,hi,hz]
theorem x_indexAddr {ad:Addr} {i0:TypeInfo} (hu:P.underlying xt = some (.slice et)) (hi:P.info? et = some i0) (hx:Ev N ρ x (.slice (some ad) n c)) (hy:Ev N ρ y (.int k i)) (h0:0 ≤ i) (h1:i < n) :
    Ex P N ρ w (.indexAddr xt x y) ty (.pointer (some (ad.add (i.toNat * i0.size)))) w:=fun _ _ _ _ => by
  have e1:(en N ρ).eval x = .slice (some ad) n c:=hx
  have e2:(en N ρ).eval y = .int k i:=hy
  simp [execOp,e1,e2,Instr.indexAt,run_underlying hu,asIntOf,h0,h1,sizeOf,typeInfo,hi]
end
end
end Go.FM

set_option linter.unusedVariables false
set_option linter.unusedSimpArgs false
namespace Go.FM
open Go
structure Hp where
  blk:Nat → Option Obj
  os:Os
  out:Array (Nat × ByteArray)
  tape:Nat → Question → Nat
structure Hp.le (H H':Hp):Prop where
  blk:∀ b o,H.blk b = some o → H'.blk b = some o
  os:H'.os = H.os
  out:H'.out = H.out
  tape:H'.tape = H.tape
theorem Hp.le.refl (H:Hp):H.le H:=⟨fun _ _ h => h,rfl,rfl,rfl⟩
theorem Hp.le.trans {A B C:Hp} (h:A.le B) (k:B.le C):A.le C:=⟨fun b o e => k.blk b o (h.blk b o e),k.os.trans h.os,k.out.trans h.out,k.tape.trans h.tape⟩
def Hp.add (H:Hp) (g:Nat) (o:Obj):Hp:={ H with blk:=fun b => if b = g then some o else H.blk b }
theorem Hp.le_add (H:Hp) (g:Nat) (o:Obj) (h:H.blk g = none):H.le (H.add g o) :=
  ⟨fun b o' e => by simp only [Hp.add]; split <;> simp_all,rfl,rfl,rfl⟩
theorem Hp.add_at (H:Hp) (g:Nat) (o:Obj):(H.add g o).blk g = some o:=by simp [Hp.add]
structure Res where
  key:Option Nat
  ok:Obj → Prop
structure St (H:Hp) (w:World) (L:List Res):Prop where
  os:w.os = H.os
  out:w.output = H.out
  tape:w.tape = H.tape
  fz:∀ b o,H.blk b = some o → w.heap[b]? = some o
  own:∀ r ∈ L,∀ g,r.key = some g → H.blk g = none∧∃ o,w.heap[g]? = some o∧r.ok o
  sep:L.Pairwise fun r s => ∀ g,r.key = some g → s.key ≠ some g
section
variable {H:Hp} {w w':World} {L L':List Res} {r s:Res}
theorem St.lt_fz (h:St H w L) {b:Nat} {o:Obj} (e:H.blk b = some o):b < w.heap.size:=(Array.getElem?_eq_some_iff.1 (h.fz b o e)).1
theorem St.lt_own (h:St H w L) (hr:r ∈ L) {g:Nat} (e:r.key = some g):g < w.heap.size:=by
  obtain ⟨_,o,ho,_⟩:=h.own r hr g e
  exact (Array.getElem?_eq_some_iff.1 ho).1
theorem St.drop (h:St H w (r::L)):St H w L:=⟨h.os,h.out,h.tape,h.fz,fun s hs => h.own s (List.mem_cons_of_mem _ hs),(List.pairwise_cons.1 h.sep).2⟩
theorem St.perm {L':List Res} (h:St H w L) (hp:L.Perm L'):St H w L' :=
  ⟨h.os,h.out,h.tape,h.fz,fun s hs => h.own s (hp.mem_iff.2 hs),(hp.pairwise_iff (fun {a b} hab g hb ha => hab g ha hb)).1 h.sep⟩
theorem St.swap (h:St H w (r::s::L)):St H w (s::r::L):=h.perm (List.Perm.swap ..)
theorem perm_pick:∀ (L:List Res) (i:Nat) (h:i < L.length),L.Perm (L[i]::L.eraseIdx i)
  | _::_,0,_ => by simp
  | x::L,i + 1,h => by
    simp only [List.getElem_cons_succ,List.eraseIdx_cons_succ]
    exact ((perm_pick L i (by simpa using h)).cons x).trans (List.Perm.swap ..)
theorem St.pick (h:St H w L) (i:Nat) {r:Res} {M:List Res} (hr:L[i]? = some r) (hM:L.eraseIdx i = M):St H w (r::M):=by
  obtain ⟨hi,rfl⟩:=List.getElem?_eq_some_iff.1 hr
  subst hM
  exact h.perm (perm_pick L i hi)
theorem St.move (h:St H w L) (e1:w'.os = w.os) (e2:w'.output = w.output) (e3:w'.tape = w.tape) (hb:∀ b,b < w.heap.size → w'.heap[b]? = w.heap[b]?):St H w' L :=
  ⟨e1.trans h.os,e2.trans h.out,e3.trans h.tape,fun b o e => (hb b (h.lt_fz e)).trans (h.fz b o e),fun r hr g e => by
    obtain ⟨h1,o,h2,h3⟩:=h.own r hr g e
    exact ⟨h1,o,(hb g (h.lt_own hr e)).trans h2,h3⟩,h.sep⟩
theorem St.drawn (h:St H w L) (n:Nat):St H { w with drawn:=n } L:=h.move rfl rfl rfl fun _ _ => rfl
theorem St.alloc (h:St H w L) (o:Obj):St H (w.alloc o) (⟨some w.heap.size,fun x => x = o⟩::L):=by
  have hm:St H (w.alloc o) L:=h.move rfl rfl rfl fun b hb => RowKit.Below.heap_alloc w o b hb
  refine ⟨hm.os,hm.out,hm.tape,hm.fz,fun r hr g e => ?_,List.pairwise_cons.2 ⟨fun s hs g e e' => ?_,hm.sep⟩⟩
  · rcases List.mem_cons.1 hr with rfl | hr
    · injection e with e
      subst e
      refine ⟨?_,o,heap_alloc_new w o,rfl⟩
      cases hk:H.blk w.heap.size with
      | none => rfl
      | some x => have:=h.lt_fz hk; omega
    · exact hm.own r hr g e
  · injection e with e
    subst e
    have:=h.lt_own hs e'
    omega
theorem St.write {g:Nat} {o:Obj} {ok':Obj → Prop} (h:St H w (r::L)) (hk:r.key = some g) (e1:w'.os = w.os) (e2:w'.output = w.output) (e3:w'.tape = w.tape)
    (hb:∀ b,b < w.heap.size → b ≠ g → w'.heap[b]? = w.heap[b]?) (hg:w'.heap[g]? = some o) (hok:ok' o):St H w' (⟨some g,ok'⟩::L):=by
  have hs:=List.pairwise_cons.1 h.sep
  have hn:=(h.own r List.mem_cons_self g hk).1
  refine ⟨e1.trans h.os,e2.trans h.out,e3.trans h.tape,fun b x e => ?_,fun s hs' g' e => ?_,List.pairwise_cons.2 ⟨fun s hs' g' e => ?_,hs.2⟩⟩
  · have hne:b ≠ g:=fun e' => by subst e'; rw [hn] at e; cases e
    exact (hb b (h.lt_fz e) hne).trans (h.fz b x e)
  · rcases List.mem_cons.1 hs' with rfl | hs2
    · injection e with e
      subst e
      exact ⟨hn,o,hg,hok⟩
    · obtain ⟨h1,x,h2,h3⟩:=h.own s (List.mem_cons_of_mem _ hs2) g' e
      have hne:g' ≠ g:=fun e' => by subst e'; exact hs.1 s hs2 g' hk e
      exact ⟨h1,x,(hb g' (h.lt_own (List.mem_cons_of_mem _ hs2) e) hne).trans h2,h3⟩
  · injection e with e
    subst e
    exact hs.1 s hs' g hk
theorem St.say {ok':Obj → Prop} (h:St H w (r::L)) (hok:∀ o,r.ok o → ok' o):St H w (⟨r.key,ok'⟩::L) :=
  ⟨h.os,h.out,h.tape,h.fz,fun s hs g e => by
    rcases List.mem_cons.1 hs with rfl | hs
    · obtain ⟨h1,o,h2,h3⟩:=h.own r List.mem_cons_self g e
      exact ⟨h1,o,h2,hok o h3⟩
    · exact h.own s (List.mem_cons_of_mem _ hs) g e,List.pairwise_cons.2 ⟨fun s hs => (List.pairwise_cons.1 h.sep).1 s hs,(List.pairwise_cons.1 h.sep).2⟩⟩
theorem St.freeze {g:Nat} (h:St H w (r::L)) (hk:r.key = some g):∃ o,r.ok o∧H.blk g = none∧St (H.add g o) w L:=by
  obtain ⟨h1,o,h2,h3⟩:=h.own r List.mem_cons_self g hk
  have hs:=List.pairwise_cons.1 h.sep
  refine ⟨o,h3,h1,h.os,h.out,h.tape,fun b x e => ?_,fun s hs' g' e => ?_,hs.2⟩
  · simp only [Hp.add] at e
    split at e
    · rename_i hb; subst hb; injection e with e; subst e; exact h2
    · exact h.fz b x e
  · obtain ⟨k1,x,k2,k3⟩:=h.own s (List.mem_cons_of_mem _ hs') g' e
    refine ⟨?_,x,k2,k3⟩
    simp only [Hp.add]
    rw [if_neg (fun e' => by subst e'; exact hs.1 s hs' g' hk e)]
    exact k1
end
def obj (g:Nat) (T:TypeId) (cs:List Value):Res:=⟨some g,fun o => o = .cells cs.toArray T (0,0)⟩
section
variable {H:Hp} {w w':World} {L:List Res} {g:Nat} {T:TypeId} {cs:List Value}
theorem St.heapAt (h:St H w (obj g T cs::L)):w.heap[g]? = some (.cells cs.toArray T (0,0)):=by
  obtain ⟨_,o,h2,h3⟩:=h.own _ List.mem_cons_self g rfl
  rw [h2,h3]
theorem St.heapIn (h:St H w L) (i:Nat) (hi:L[i]? = some (obj g T cs)):w.heap[g]? = some (.cells cs.toArray T (0,0)):=by
  obtain ⟨_,o,h2,h3⟩:=h.own _ (List.mem_of_getElem? hi) g rfl
  rw [h2,h3]
theorem cell_at {b j:Nat} {c:Array Value} {E:TypeId} {fr:Nat × Nat} (h:w.heap[b]? = some (.cells c E fr)) {v:Value} (hv:c[j]? = some v):w.cell? ⟨b,j,none⟩ = some v:=by
  simp [World.cell?,h,hv]
theorem St.cell (h:St H w L) (i:Nat) (hi:L[i]? = some (obj g T cs)) (j:Nat) {v:Value} (hv:cs[j]? = some v):w.cell? ⟨g,j,none⟩ = some v :=
  cell_at (h.heapIn i hi) (by simpa using hv)
theorem add_none (b o n:Nat):(⟨b,o,none⟩:Addr).add n = ⟨b,o + n,none⟩:=by
  unfold Addr.add; split
  · rename_i h; subst h; rfl
  · rfl
def At (w:World) (a:Addr) (cs:List Value):Prop:=∀ j v,cs[j]? = some v → w.cell? (a.add j) = some v
theorem St.at_ (h:St H w L) (i:Nat) (hi:L[i]? = some (obj g T cs)) (o:Nat) {ds:List Value} (hd:(cs.drop o).take ds.length = ds):At w ⟨g,o,none⟩ ds:=by
  intro j v hv
  rw [add_none]
  refine h.cell i hi (o + j) ?_
  have hj:=(List.getElem?_eq_some_iff.1 hv).1
  rw [← hd] at hv
  rw [List.getElem?_take,if_pos hj,List.getElem?_drop] at hv
  exact hv
def splice (cs:List Value) (i:Nat) (vs:List Value):List Value:=cs.take i ++ vs ++ cs.drop (i + vs.length)
theorem splice_length {cs vs:List Value} {i:Nat} (h:i + vs.length ≤ cs.length):(splice cs i vs).length = cs.length:=by
  simp only [splice,List.length_append,List.length_take,List.length_drop]; omega
theorem splice_get {cs vs:List Value} {i:Nat} (h:i + vs.length ≤ cs.length) (j:Nat):(splice cs i vs)[j]? = if i ≤ j∧j < i + vs.length then vs[j - i]? else cs[j]?:=by
  simp only [splice]
  by_cases h1:j < i
  · rw [if_neg (by omega),List.append_assoc,List.getElem?_append_left (by simp; omega),List.getElem?_take,if_pos h1]
  · by_cases h2:j < i + vs.length
    · rw [if_pos ⟨by omega,h2⟩,List.append_assoc,List.getElem?_append_right (by simp; omega),List.getElem?_append_left (by simp; omega)]
      congr 1; simp; omega
    · rw [if_neg (by omega),List.append_assoc,List.getElem?_append_right (by simp; omega),List.getElem?_append_right (by simp; omega),List.getElem?_drop]
      congr 1; simp; omega
theorem run_storeCells_obj {P:Program} (h:St H w (obj g T cs::L)) (i:Nat) (vs:List Value) (hl:i + vs.length ≤ cs.length) (h1:∀ v ∈ vs,v.oneCell' = true) :
    ∃ w',(storeCells ⟨g,i,none⟩ vs).run P w = .ok () w'∧St H w' (obj g T (splice cs i vs)::L):=by
  have hg:=h.heapAt
  have hr:=run_storeCells_at P g i T vs 0 cs.toArray w hg (by simpa using hl) h1
  refine ⟨_,hr,?_⟩
  refine h.write (g:=g) rfl rfl rfl rfl (fun b hb hne => setRow_other w g b _ hne) (setRow_heap w g _ _ T _ hg) ?_
  simp [splice]
end
section
variable {P:Program} {N:Nat} {ρ:Nat → Value} {H:Hp} {w w':World} {L:List Res} {g T t ty:Nat} {cs:List Value} {x y:Operand}
def scalarT (P:Program) (t:TypeId):Bool:=match P.underlying t with
  | some (.struct _) | some (.array _ _) => false
  | some _ => true
  | none => false
def aggT (P:Program) (t:TypeId):Bool:=match P.underlying t with
  | some (.struct _) | some (.array _ _) => true
  | _ => false
theorem run_isAgg_f (h:scalarT P t = true) (w:World):(isAgg t).run P w = .ok false w:=by
  unfold scalarT at h
  unfold isAgg
  split at h
  · cases h
  · cases h
  · rename_i u h1 h2 e
    simp [run_underlying e]
  · cases h
theorem run_isAgg_t (h:aggT P t = true) (w:World):(isAgg t).run P w = .ok true w:=by
  unfold aggT at h
  unfold isAgg
  split at h
  · rename_i e; simp [run_underlying e]
  · rename_i e; simp [run_underlying e]
  · cases h
theorem run_loadVar_f (hs:scalarT P t = true) {ad:Addr} {v:Value} (hc:w.cell? ad = some v):(loadVar t ad).run P w = .ok v w:=by
  simp [loadVar,run_isAgg_f hs,run_load,hc]
theorem run_loadVar_t (hs:aggT P t = true) {i0:TypeInfo} (hi:P.info? t = some i0) {ad:Addr} (hc:At w ad cs) (hl:cs.length = i0.size):(loadVar t ad).run P w = .ok (.agg cs.toArray) w:=by
  have:=run_loadCells_list (P:=P) w ad cs hc
  rw [hl] at this
  simp [loadVar,run_isAgg_t hs,sizeOf,typeInfo,hi,this]
theorem x_load (hs:scalarT P t = true) {ad:Addr} {v:Value} (hx:Ev N ρ x (.pointer (some ad))) (hc:w.cell? ad = some v):Ex P N ρ w (.load t x) ty v w:=fun _ _ _ _ => by
  have h1:(en N ρ).eval x = .pointer (some ad):=hx
  simp [execOp,h1,Instr.loadAt,Instr.sureAddr,run_loadVar_f hs hc]
theorem x_loadA (hs:aggT P t = true) {i0:TypeInfo} (hi:P.info? t = some i0) {ad:Addr} (hx:Ev N ρ x (.pointer (some ad))) (hc:At w ad cs) (hl:cs.length = i0.size):Ex P N ρ w (.load t x) ty (.agg cs.toArray) w:=fun _ _ _ _ => by
  have h1:(en N ρ).eval x = .pointer (some ad):=hx
  simp [execOp,h1,Instr.loadAt,Instr.sureAddr,run_loadVar_t hs hi hc hl]
theorem m_store {i0:TypeInfo} (hi:P.info? t = some i0) {i:Nat} {v:Value} {cs':List Value} (h:St H w (obj g T cs::L)) (hx:Ev N ρ x (.pointer (some ⟨g,i,none⟩))) (hy:Ev N ρ y v)
    (hsz:v.cells.size = i0.size) (hl:i + i0.size ≤ cs.length) (h1:∀ u ∈ v.cells.toList,u.oneCell' = true) (hsp:splice cs i v.cells.toList = cs') :
    ∃ w',Ex0 P N ρ w (.store t x y) ty w'∧St H w' (obj g T cs'::L):=by
  obtain ⟨w',hr,hs⟩:=run_storeCells_obj (P:=P) h i v.cells.toList (by simp only [Array.length_toList]; omega) h1
  rw [hsp] at hs
  refine ⟨w',fun _ _ _ _ => ?_,hs⟩
  have e1:(en N ρ).eval x = .pointer (some ⟨g,i,none⟩):=hx
  have e2:(en N ρ).eval y = v:=hy
  simp [execOp,e1,e2,Instr.storeAt,Instr.sureAddr,storeVar,sizeOf,typeInfo,hi,hsz,hr]
theorem m_box {v:Value} {cs:List Value} (h:St H w L) (hx:Ev N ρ x v) (hv:v.cells = cs.toArray):∃ v' w',Ex P N ρ w (.box T x) ty v' w'∧∃ g,v' = .pointer (some ⟨g,0,none⟩)∧St H w' (obj g T cs::L):=by
  refine ⟨_,w.alloc (.cells cs.toArray T),fun _ _ _ _ => ?_,w.heap.size,rfl,h.alloc _⟩
  have h1:(en N ρ).eval x = v:=hx
  simp [execOp,h1,Instr.box,newVar,newRow,hv]
theorem m_alloc {i0:TypeInfo} {z:Value} {cs:List Value} (hi:P.info? T = some i0) (hz:i0.zero = some z) (h:St H w L) (hv:z.cells = cs.toArray):∃ v' w',Ex P N ρ w (.alloc T) ty v' w'∧∃ g,v' = .pointer (some ⟨g,0,none⟩)∧St H w' (obj g T cs::L):=by
  refine ⟨_,w.alloc (.cells cs.toArray T),fun _ _ _ _ => ?_,w.heap.size,rfl,h.alloc _⟩
  simp [execOp,Instr.alloc,newVar,newRow,zeroValue,typeInfo,hi,hz,hv]
theorem m_buildSlice {e n:Nat} {i0:TypeInfo} {z:Value} {parts:Array (Nat × Operand)} {ps:Array (Nat × Value)} {cells:Array Value} {cs:List Value} (hu:P.underlying t = some (.slice e)) (hi:P.info? e = some i0) (hz:i0.zero = some z)
    (hps:parts.map (fun p => (p.1,(en N ρ).eval p.2)) = ps) (hn:n * i0.size ≤ 16777216) (h0:n * i0.size ≠ 0)
    (hf:Instr.fill (fun i => some (i * i0.size,i0.size)) ((Array.range (n * i0.size)).map (z.cells[· % z.cells.size]!)) ps.toList = some cells) (hc:cells = cs.toArray) (h:St H w L) :
    ∃ v' w',Ex P N ρ w (.buildSlice t n parts) ty v' w'∧∃ g,v' = .slice (some ⟨g,0,none⟩) n n∧St H w' (obj g e cs::L):=by
  refine ⟨_,w.alloc (.cells cs.toArray e),fun _ _ _ _ => ?_,w.heap.size,rfl,h.alloc _⟩
  have e1:(parts.map fun (i,x) => (i,(en N ρ).eval x)) = ps:=hps
  have hn':¬ 2 ^ 24 < n * i0.size:=by omega
  subst hc
  simp only [execOp,e1,Instr.buildSlice,Sem.run_bind,run_underlying hu,Result.andThen_ok,sizeOf,typeInfo,run_program,hi,Sem.run_pure]
  rw [if_neg (by simpa using hn'),if_neg h0]
  simp [zeroValue,typeInfo,hi,hz,hf,newRow]
theorem x_build {fs:Array Field} {i0:TypeInfo} {z:Value} {places:List (Nat × Nat)} {parts:Array (Nat × Operand)} {ps:Array (Nat × Value)} {cells:Array Value} (hu:P.underlying t = some (.struct fs)) (hi:P.info? t = some i0) (hz:i0.zero = some z)
    (hps:parts.map (fun p => (p.1,(en N ρ).eval p.2)) = ps) (hpl:fs.toList.map (fun (f:Field) => (f.offset,((P.info? f.type).map (·.size)))) = places.map (fun p => (p.1,some p.2)))
    (hf:Instr.fill (places[·]?) z.cells ps.toList = some cells):Ex P N ρ w (.build t parts) ty (.agg cells) w:=fun _ _ _ _ => by
  have e1:(parts.map fun (i,x) => (i,(en N ρ).eval x)) = ps:=hps
  have hm:∀ (l:List Field) (pl:List (Nat × Nat)),l.map (fun (f:Field) => (f.offset,((P.info? f.type).map (·.size)))) = pl.map (fun p => (p.1,some p.2)) → ∀ w:World,(l.mapM (fun (f:Field) => do pure (f.offset,← sizeOf f.type))).run P w = .ok pl w:=by
    intro l
    induction l with
    | nil => intro pl h w; cases pl <;> simp_all
    | cons f l ih =>
      intro pl h w
      cases pl with
      | nil => simp at h
      | cons p pl =>
        simp only [List.map_cons,List.cons.injEq,Prod.mk.injEq] at h
        obtain ⟨⟨ha,hb⟩,hc⟩:=h
        obtain ⟨i1,h2,h3⟩:=Option.map_eq_some_iff.1 hb
        have:=ih pl hc w
        simp only [List.mapM_cons,Sem.run_bind,sizeOf,typeInfo,run_program,Result.andThen_ok,h2,Sem.run_pure] at this ⊢
        rw [this]
        simp [ha,h3]
  have hm':(fs.mapM (fun (f:Field) => do pure (f.offset,← sizeOf f.type))).run P w = .ok places.toArray w:=by
    have:=hm fs.toList places hpl w
    rw [← Array.toArray_toList (xs:=fs)]
    rw [List.mapM_toArray]
    simp only [Sem.run_map,this,Result.andThen_ok]
  have hb:(Instr.build t ps).run P w = .ok (.agg cells) w:=by
    simp only [Instr.build,Sem.run_bind,zeroValue,typeInfo,run_program,Result.andThen_ok,hi,Sem.run_pure,hz,run_underlying hu]
    rw [hm']
    simp [hf]
  simp [execOp,e1,hb]
end
end Go.FM

set_option linter.unusedVariables false
set_option linter.unusedSimpArgs false
namespace Go.FM
open Go
def row (e size:Nat) (v:Value) (n:Nat) (xs:List Value):Res :=
  ⟨v.ownBlock,fun o => ∃ g cap cur,v = .slice (some ⟨g,0,none⟩) n cap∧o = .cells cur e (0,0)∧n ≤ cap∧cap ≤ maxLen∧cur.size = cap * size∧cur.toList.take (n * size) = xs⟩
def RowOk (size:Nat) (v:Value) (n:Nat) (xs:List Value):Prop:=xs.length = n * size∧n ≤ maxLen∧((v = .slice none 0 0∧n = 0) ∨ ∃ g cap,v = .slice (some ⟨g,0,none⟩) n cap∧n ≤ cap)
section
variable {H:Hp} {w w':World} {L:List Res} {e size n m:Nat} {v v':Value} {xs ys:List Value}
theorem RowOk.nil (size:Nat):RowOk size (.slice none 0 0) 0 []:=⟨by simp,by simp [maxLen],.inl ⟨rfl,rfl⟩⟩
theorem RowOk.pos (h:RowOk size v n xs) (h0:0 < n):∃ g cap,v = .slice (some ⟨g,0,none⟩) n cap:=by
  rcases h.2.2 with ⟨_,rfl⟩ | ⟨g,cap,hv,_⟩
  · omega
  · exact ⟨g,cap,hv⟩
theorem RowOk.slice (h:RowOk size v n xs):∃ A c,v = .slice A n c∧n ≤ c:=by
  rcases h.2.2 with ⟨rfl,rfl⟩ | ⟨g,cap,rfl,hc⟩
  · exact ⟨none,0,rfl,Nat.le_refl _⟩
  · exact ⟨_,cap,rfl,hc⟩
theorem St.rowNil (h:St H w L) (e size:Nat):St H w (row e size (.slice none 0 0) 0 []::L):=by
  refine ⟨h.os,h.out,h.tape,h.fz,fun r hr g hg => ?_,List.pairwise_cons.2 ⟨fun s _ g hg => ?_,h.sep⟩⟩
  · rcases List.mem_cons.1 hr with rfl | hr
    · cases hg
    · exact h.own r hr g hg
  · cases hg
theorem St.owns (h:St H w (row e size v n xs::L)) (ok:RowOk size v n xs):w.ownsRow 0 e size v n xs:=by
  refine ⟨ok.1,?_⟩
  rcases ok.2.2 with hn | ⟨g,cap,rfl,_⟩
  · exact .inl hn
  · obtain ⟨_,o,ho,g',cap',cur,e1,rfl,h1,h2,h3,h4⟩:=h.own _ List.mem_cons_self g rfl
    injection e1 with ea eb ec
    injection ea with ea
    injection ea with ea
    subst ea; subst ec
    exact .inr ⟨g,cap,cur,rfl,Nat.zero_le _,ho,h1,h2,h3,h4⟩
theorem rowOk_of_owns (h:w.ownsRow 0 e size v n xs):RowOk size v n xs:=by
  rcases h.2 with ⟨rfl,rfl⟩ | ⟨g,cap,cur,rfl,_,_,h1,h2,_⟩
  · exact ⟨h.1,by simp [maxLen],.inl ⟨rfl,rfl⟩⟩
  · exact ⟨h.1,Nat.le_trans h1 h2,.inr ⟨g,cap,rfl,h1⟩⟩
theorem St.regrow (h:St H w (row e size v n xs::L)) (hg:w.grownBy w' v.ownBlock) (ho:w'.ownsRow 0 e size v' m ys) (hat:v'.ownBlock = none ∨ v'.ownBlock = v.ownBlock ∨ v'.ownBlock = some w.heap.size):St H w' (row e size v' m ys::L):=by
  have hs:=List.pairwise_cons.1 h.sep
  have hH:∀ b o,H.blk b = some o → w'.heap[b]? = some o:=fun b o hb => by
    have hlt:=h.lt_fz hb
    refine (hg.block b hlt fun e' => ?_).trans (h.fz b o hb)
    have:=(h.own _ List.mem_cons_self b e'.symm).1
    rw [hb] at this; cases this
  refine ⟨hg.os.trans h.os,hg.output.trans h.out,hg.tape.trans h.tape,hH,fun r hr g hk => ?_,List.pairwise_cons.2 ⟨fun s hs' g hk hk' => ?_,hs.2⟩⟩
  · rcases List.mem_cons.1 hr with rfl | hr
    · have hk1:v'.ownBlock = some g:=hk
      refine ⟨?_,?_⟩
      · rcases hat with h0 | h0 | h0
        · rw [h0] at hk1; cases hk1
        · exact (h.own _ List.mem_cons_self g (show v.ownBlock = some g by rw [← h0]; exact hk1)).1
        · rw [h0] at hk1; injection hk1 with hk1
          cases hb:H.blk g with
          | none => rfl
          | some o => have:=h.lt_fz hb; omega
      · rcases ho.2 with ⟨rfl,_⟩ | ⟨g',cap,cur,rfl,_,h1,h2,h3,h4,h5⟩
        · cases hk1
        · have:g' = g:=by simpa [Value.ownBlock] using hk1
          subst this
          exact ⟨_,h1,g',cap,cur,rfl,rfl,h2,h3,h4,h5⟩
    · obtain ⟨h1,o,h2,h3⟩:=h.own r (List.mem_cons_of_mem _ hr) g hk
      refine ⟨h1,o,(hg.block g (h.lt_own (List.mem_cons_of_mem _ hr) hk) fun e' => ?_).trans h2,h3⟩
      exact hs.1 r hr g e'.symm hk
  · have hk1:v'.ownBlock = some g:=hk
    rcases hat with h0 | h0 | h0
    · rw [h0] at hk1; cases hk1
    · exact hs.1 s hs' g (show v.ownBlock = some g by rw [← h0]; exact hk1) hk'
    · rw [h0] at hk1; injection hk1 with hk1
      have:=h.lt_own (List.mem_cons_of_mem _ hs') hk'; omega
theorem St.rowIn {g cap:Nat} (h:St H w L) (i:Nat) (hi:L[i]? = some (row e size v n xs)) (hv:v = .slice (some ⟨g,0,none⟩) n cap):∃ cur,w.heap[g]? = some (.cells cur e (0,0))∧cur.toList.take (n * size) = xs∧cur.size = cap * size∧n ≤ cap∧cap ≤ maxLen:=by
  subst hv
  obtain ⟨_,o,ho,g',cap',cur,e1,rfl,h1,h2,h3,h4⟩:=h.own _ (List.mem_of_getElem? hi) g rfl
  injection e1 with ea eb ec
  subst ec
  exact ⟨cur,ho,h4,h3,h1,h2⟩
theorem St.rowAt {g cap:Nat} (h:St H w L) (i:Nat) (hi:L[i]? = some (row e size v n xs)) (hv:v = .slice (some ⟨g,0,none⟩) n cap) (o:Nat) {ds:List Value} (hd:(xs.drop o).take ds.length = ds):At w ⟨g,o,none⟩ ds:=by
  obtain ⟨cur,hg,ht,_⟩:=h.rowIn i hi hv
  intro j u hu
  rw [add_none]
  have hj:=(List.getElem?_eq_some_iff.1 hu).1
  rw [← hd,List.getElem?_take,if_pos hj,List.getElem?_drop,← ht] at hu
  have hlt:=(List.getElem?_eq_some_iff.1 hu).1
  rw [List.getElem?_take] at hu
  split at hu
  · exact cell_at hg (by simpa using hu)
  · cases hu
theorem St.rowAll (h:St H w L) (i:Nat) (hi:L[i]? = some (row e size v n xs)) (ok:RowOk size v n xs):xs = [] ∨ ∃ a,(∃ c,v = .slice (some a) n c)∧At w a xs:=by
  rcases ok.2.2 with ⟨rfl,rfl⟩ | ⟨g,cap,hv,_⟩
  · exact .inl (List.eq_nil_of_length_eq_zero (by simpa using ok.1))
  · exact .inr ⟨_,⟨cap,hv⟩,h.rowAt i hi hv 0 (by simp)⟩
end
theorem St.rowEnc {H:Hp} {w:World} {L:List Res} {e n g cap:Nat} {v:Value} {α:Type} {enc:α → Value} {l:List α} (h:St H w L) (i:Nat) (hi:L[i]? = some (row e 1 v n (l.map enc))) (hv:v = .slice (some ⟨g,0,none⟩) n cap) (j:Nat) {x:α} (hx:l[j]? = some x):w.cell? ⟨g,j,none⟩ = some (enc x):=by
  obtain ⟨cur,hg,ht,_⟩:=h.rowIn i hi hv
  have h1:(l.map enc)[j]? = some (enc x):=by simp [hx]
  rw [← ht,List.getElem?_take] at h1
  split at h1
  · exact cell_at hg (by simpa using h1)
  · cases h1
def Rd (H:Hp) (A:Option Addr) (xs:List Value):Prop:=xs = [] ∨ ∃ b off cs E fr,A = some ⟨b,off,none⟩∧H.blk b = some (.cells cs E fr)∧∀ j u,xs[j]? = some u → cs[off + j]? = some u
section
variable {H H':Hp} {w w':World} {L:List Res} {A:Option Addr} {xs:List Value}
theorem Rd.mono (h:Rd H A xs) (hl:H.le H'):Rd H' A xs:=by
  rcases h with h | ⟨b,off,cs,E,fr,h1,h2,h3⟩
  · exact .inl h
  · exact .inr ⟨b,off,cs,E,fr,h1,hl.blk _ _ h2,h3⟩
theorem Rd.at_ (h:Rd H A xs) (hne:xs ≠ []):∃ b off,A = some ⟨b,off,none⟩∧∀ {w:World} {L:List Res},St H w L → At w ⟨b,off,none⟩ xs:=by
  rcases h with h | ⟨b,off,cs,E,fr,h1,h2,h3⟩
  · exact absurd h hne
  · refine ⟨b,off,h1,fun {w L} hs j u hu => ?_⟩
    rw [add_none]
    exact cell_at (hs.fz b _ h2) (h3 j u hu)
theorem Rd.nil (A:Option Addr):Rd H A []:=.inl rfl
theorem Rd.take (h:Rd H A xs) (n:Nat):Rd H A (xs.take n):=by
  rcases h with rfl | ⟨b,off,cs,E,fr,h1,h2,h3⟩
  · exact .inl (by simp)
  · refine .inr ⟨b,off,cs,E,fr,h1,h2,fun j u hu => h3 j u ?_⟩
    rw [List.getElem?_take] at hu
    split at hu
    · exact hu
    · cases hu
def cutA (A:Option Addr) (c l size:Nat):Option Addr:=if c = l then A else A.map (·.add (l * size))
theorem Rd.drop (h:Rd H A xs) {n c l size:Nat} (hn:xs.length = n * size) (hc:n ≤ c):Rd H (cutA A c l size) (xs.drop (l * size)):=by
  rcases h with rfl | ⟨b,off,cs,E,fr,h1,h2,h3⟩
  · exact .inl (by simp)
  · by_cases hcl:c = l
    · refine .inl (List.drop_eq_nil_of_le ?_)
      rw [hn]; exact Nat.mul_le_mul_right _ (by omega)
    · refine .inr ⟨b,off + l * size,cs,E,fr,?_,h2,fun j u hu => ?_⟩
      · simp [cutA,if_neg hcl,h1,add_none]
      · rw [List.getElem?_drop] at hu
        have:=h3 _ _ hu
        rwa [Nat.add_assoc]
theorem St.weaken {H H':Hp} {w:World} {L:List Res} (hl:H.le H') (h:St H' w L):St H w L:=by
  refine ⟨h.os.trans hl.os,h.out.trans hl.out,h.tape.trans hl.tape,fun b o e => h.fz b o (hl.blk b o e),fun r hr g hk => ?_,h.sep⟩
  obtain ⟨h1,h2⟩:=h.own r hr g hk
  refine ⟨?_,h2⟩
  cases hb:H.blk g with
  | none => rfl
  | some o => rw [hl.blk g o hb] at h1; cases h1
theorem St.freezeRow {e size n:Nat} {v:Value} (h:St H w (row e size v n xs::L)) (ok:RowOk size v n xs):∃ H' A c,H.le H'∧St H' w L∧v = .slice A n c∧n ≤ c∧Rd H' A xs:=by
  rcases ok.2.2 with ⟨rfl,rfl⟩ | ⟨g,cap,rfl,hc⟩
  · exact ⟨H,none,0,Hp.le.refl H,h.drop,rfl,Nat.le_refl _,.inl (List.eq_nil_of_length_eq_zero (by simpa using ok.1))⟩
  · obtain ⟨o,⟨g',cap',cur,e1,rfl,_,_,_,h4⟩,h1,h2⟩:=h.freeze (g:=g) rfl
    refine ⟨_,_,cap,H.le_add g _ h1,h2,rfl,hc,.inr ⟨g,0,cur,e,(0,0),rfl,Hp.add_at H g _,fun j u hu => ?_⟩⟩
    rw [← h4,List.getElem?_take] at hu
    split at hu
    · simpa using hu
    · cases hu
theorem St.rowOfObj {g T n size:Nat} {cs:List Value} (h:St H w (obj g T cs::L)) (hl:cs.length = n * size) (hn:n ≤ maxLen):St H w (row T size (.slice (some ⟨g,0,none⟩) n n) n cs::L)∧RowOk size (.slice (some ⟨g,0,none⟩) n n) n cs:=by
  refine ⟨h.say (ok':=(row T size (.slice (some ⟨g,0,none⟩) n n) n cs).ok) fun o ho => ⟨g,n,cs.toArray,rfl,ho,Nat.le_refl _,hn,by simpa using hl,by simp [← hl]⟩,hl,hn,.inr ⟨g,n,rfl,Nat.le_refl _⟩⟩
end
section
variable {P:Program} {N:Nat} {ρ:Nat → Value} {H:Hp} {w w':World} {L:List Res} {t ty e size bytes n m c:Nat} {v:Value} {xs news:List Value} {x y:Operand} {i0:TypeInfo} {z:Value}
theorem m_append (hu:P.underlying t = some (.slice e)) (hi:P.info? e = some i0) (hz:i0.zero = some z) (hsz:i0.size = size) (hby:i0.bytes = bytes) (hzs:z.cells.size = size) (h0:0 < size)
    (h:St H w (row e size v n xs::L)) (ok:RowOk size v n xs) (hx:Ev N ρ x v) {a:Addr} (hy:Ev N ρ y (.slice (some a) m c)) (hl:news.length = m * size) (hnews:At w a news) (h1:∀ u ∈ news,u.oneCell' = true)
    (hb:(n + m) * bytes ≤ 140737488355328) (hb0:0 < bytes) :
    ∃ v' w',Ex P N ρ w (.call { callee:=.builtin .append,args:=#[x,y],argTypes:=#[t,t] }) ty v' w'∧RowOk size v' (n + m) (xs ++ news)∧St H w' (row e size v' (n + m) (xs ++ news)::L):=by
  have h63:n + m ≤ maxLen:=by
    have:n + m ≤ (n + m) * bytes:=Nat.le_mul_of_pos_right _ hb0
    simp only [maxLen]; omega
  obtain ⟨v',w',hr,ho,hg,_,hat⟩:=run_append_own_at (P:=P) w 0 t ty e i0 z size bytes hu hi hz hsz hby hzs h0 v n xs (h.owns ok) a m c news hl hnews h1 h63 hb (Nat.zero_le _)
  refine ⟨v',w',fun _ _ _ _ => ?_,rowOk_of_owns ho,h.regrow hg ho (.inr hat)⟩
  have e1:(en N ρ).eval x = v:=hx
  have e2:(en N ρ).eval y = .slice (some a) m c:=hy
  simp [execOp,resolve,invoke,builtin,e1,e2,hr]
theorem m_append0 (hu:P.underlying t = some (.slice e)) (hi:P.info? e = some i0) (h:St H w (row e size v n xs::L)) (ok:RowOk size v n xs) (hx:Ev N ρ x v) {A:Option Addr} (hy:Ev N ρ y (.slice A 0 c)) :
    Ex P N ρ w (.call { callee:=.builtin .append,args:=#[x,y],argTypes:=#[t,t] }) ty v w:=fun _ _ _ _ => by
  have e1:(en N ρ).eval x = v:=hx
  have e2:(en N ρ).eval y = .slice A 0 c:=hy
  have hr:(Builtin.append_ #[t,t] ty #[v,.slice A 0 c]).run P w = .ok v w:=by
    rcases ok.2.2 with ⟨rfl,rfl⟩ | ⟨g,cap,rfl,hc⟩
    · cases A <;> simp [Builtin.append_,run_underlying hu,sizeOf,typeInfo,hi,Builtin.lenOf,Builtin.firstCells,loadCells,loadCellsFrom]
    · cases A <;> simp [Builtin.append_,run_underlying hu,sizeOf,typeInfo,hi,Builtin.lenOf,Builtin.firstCells,loadCells,loadCellsFrom,hc,storeCells]
  simp [execOp,resolve,invoke,builtin,e1,e2,hr]
theorem m_storeRow {T g cap i:Nat} {u:Value} {xs':List Value} (hi:P.info? T = some i0) (h:St H w (row e size v n xs::L)) (hv:v = .slice (some ⟨g,0,none⟩) n cap) (hx:Ev N ρ x (.pointer (some ⟨g,i,none⟩))) (hy:Ev N ρ y u)
    (hsz:u.cells.size = i0.size) (hl:i + i0.size ≤ xs.length) (h1:∀ u' ∈ u.cells.toList,u'.oneCell' = true) (hsp:splice xs i u.cells.toList = xs') :
    ∃ w',Ex0 P N ρ w (.store T x y) ty w'∧St H w' (row e size v n xs'::L):=by
  obtain ⟨cur,hg,ht,hcs,hnc,hcm⟩:=h.rowIn 0 rfl hv
  have hxl:xs.length = n * size:=by
    rw [← ht,List.length_take,Array.length_toList,hcs]
    exact Nat.min_eq_left (Nat.mul_le_mul_right _ hnc)
  have hlen:xs.length ≤ cur.size:=by rw [hxl,hcs]; exact Nat.mul_le_mul_right _ hnc
  have hr:=run_storeCells_at P g i e u.cells.toList 0 cur w hg (by simp only [Array.length_toList]; omega) h1
  refine ⟨w.setRow g (cur.toList.take (i + 0) ++ u.cells.toList ++ cur.toList.drop (i + 0 + u.cells.toList.length)).toArray,fun _ _ _ _ => ?_,?_⟩
  · have e1:(en N ρ).eval x = .pointer (some ⟨g,i,none⟩):=hx
    have e2:(en N ρ).eval y = u:=hy
    simp only [execOp,e1,e2,Instr.storeAt,Instr.sureAddr,storeVar,sizeOf,typeInfo,hi,Sem.run_bind,Sem.run_pure,run_program,Result.andThen_ok,hsz]
    simp only [ne_eq,not_true_eq_false,if_false,Sem.run_bind,Sem.run_pure,Result.andThen_ok,hr]
  · subst hv
    refine h.write (g:=g) (w':=w.setRow g _) rfl rfl rfl rfl (fun b hb hne => setRow_other w g b _ hne) (setRow_heap w g _ _ e _ hg) ⟨g,cap,_,rfl,rfl,hnc,hcm,?_,?_⟩
    · simp only [List.size_toArray,List.length_append,List.length_take,List.length_drop,Array.length_toList,hsz]; omega
    · subst hsp
      apply List.ext_getElem?
      intro j
      have hlu:u.cells.toList.length = i0.size:=by simpa using hsz
      rw [splice_get (by omega),List.getElem?_take]
      have hsg:=splice_get (cs:=cur.toList) (vs:=u.cells.toList) (i:=i) (by simp only [Array.length_toList] at *; omega) j
      simp only [splice] at hsg
      simp only [Nat.add_zero]
      rw [hsg]
      by_cases h2:j < n * size
      · rw [if_pos h2]
        split
        · rfl
        · rw [← ht,List.getElem?_take,if_pos h2]
      · rw [if_neg h2]
        split
        · omega
        · exact (List.getElem?_eq_none (by omega)).symm
variable {A:Option Addr} {lo hi_:Operand} {a b:Int} {k k':IntKind}
theorem x_slice_h (hu:P.underlying t = some (.slice e)) (hi:P.info? e = some i0) (hx:Ev N ρ x (.slice A n c)) (hh:Ev N ρ hi_ (.int k' b)) (h0:0 ≤ b) (h2:b ≤ c) :
    Ex P N ρ w (.slice t x none (some hi_) none) ty (.slice A b.toNat c) w:=fun _ _ _ _ => by
  have e1:(en N ρ).eval x = .slice A n c:=hx
  have e3:(en N ρ).eval hi_ = .int k' b:=hh
  have hm:A.map (fun x:Addr => x.add 0) = A:=by cases A <;> rfl
  obtain ⟨b',rfl⟩:=Int.eq_ofNat_of_zero_le h0
  have h6:b' ≤ c:=by omega
  by_cases hc:c = 0
  · subst hc
    have:b' = 0:=by omega
    subst this
    simp [execOp,e1,e3,Instr.sliceAt,run_underlying hu,Instr.slice,Instr.sliceBounds,Instr.sliceBound,asIntOf,sizeOf,typeInfo,hi]
  · simp [execOp,e1,e3,Instr.sliceAt,run_underlying hu,Instr.slice,Instr.sliceBounds,Instr.sliceBound,asIntOf,h6,sizeOf,typeInfo,hi,hc,hm]
theorem x_slice_l (hu:P.underlying t = some (.slice e)) (hi:P.info? e = some i0) (hx:Ev N ρ x (.slice A n c)) (hl:Ev N ρ lo (.int k a)) (h0:0 ≤ a) (h1:a ≤ n) (h2:n ≤ c) :
    Ex P N ρ w (.slice t x (some lo) none none) ty (.slice (cutA A c a.toNat i0.size) (n - a.toNat) (c - a.toNat)) w:=fun _ _ _ _ => by
  have e1:(en N ρ).eval x = .slice A n c:=hx
  have e2:(en N ρ).eval lo = .int k a:=hl
  simp [execOp,e1,e2,Instr.sliceAt,run_underlying hu,Instr.slice,Instr.sliceBounds,Instr.sliceBound,asIntOf,h0,h1,sizeOf,typeInfo,hi,cutA]
end
structure Kn (α:Type) where
  sz:Nat
  pos:0 < sz
  rep:Hp → α → List Value → Prop
  len:∀ {H x cs},rep H x cs → cs.length = sz
  one:∀ {H x cs},rep H x cs → ∀ u ∈ cs,u.oneCell' = true
  mono:∀ {H H' x cs},H.le H' → rep H x cs → rep H' x cs
namespace Kn
variable {α:Type} {d:Kn α} {H H':Hp} {xs ys:List α} {cells cells':List Value} {A:Option Addr}
def rows (d:Kn α) (H:Hp) (xs:List α) (cells:List Value):Prop :=
  cells.length = xs.length * d.sz∧∀ i x,xs[i]? = some x → ∃ c,d.rep H x c∧(cells.drop (i * d.sz)).take d.sz = c
theorem rows_nil (d:Kn α) (H:Hp):d.rows H [] []:=⟨by simp,fun i x h => by simp at h⟩
theorem rows_mono (h:d.rows H xs cells) (hl:H.le H'):d.rows H' xs cells:=⟨h.1,fun i x hx => by
  obtain ⟨c,h1,h2⟩:=h.2 i x hx
  exact ⟨c,d.mono hl h1,h2⟩⟩
theorem rows_append (h:d.rows H xs cells) (h':d.rows H ys cells'):d.rows H (xs ++ ys) (cells ++ cells'):=by
  refine ⟨by simp [h.1,h'.1,Nat.add_mul],fun i x hx => ?_⟩
  by_cases hi:i < xs.length
  · rw [List.getElem?_append_left hi] at hx
    obtain ⟨c,h1,h2⟩:=h.2 i x hx
    refine ⟨c,h1,?_⟩
    have:(i + 1) * d.sz ≤ cells.length:=by rw [h.1]; exact Nat.mul_le_mul_right _ hi
    rw [Nat.add_mul,Nat.one_mul] at this
    rw [List.drop_append_of_le_length (by omega),List.take_append_of_le_length (by simp; omega)]
    exact h2
  · rw [List.getElem?_append_right (by omega)] at hx
    obtain ⟨c,h1,h2⟩:=h'.2 _ x hx
    refine ⟨c,h1,?_⟩
    have e:i * d.sz = cells.length + (i - xs.length) * d.sz:=by
      rw [h.1,← Nat.add_mul]; congr 1; omega
    rw [e,List.drop_append,List.drop_eq_nil_of_le (by omega),List.nil_append]
    have:cells.length + (i - xs.length) * d.sz - cells.length = (i - xs.length) * d.sz:=by omega
    rw [this]; exact h2
theorem rows_one {x:α} {c:List Value} (h:d.rep H x c):d.rows H [x] c:=⟨by simp [d.len h],fun i y hy => by
  cases i with
  | zero => simp at hy; subst hy; exact ⟨c,h,by simp [← d.len h]⟩
  | succ i => simp at hy⟩
theorem rows_snoc {x:α} {c:List Value} (h:d.rows H xs cells) (hx:d.rep H x c):d.rows H (xs ++ [x]) (cells ++ c):=rows_append h (rows_one hx)
theorem rows_take (h:d.rows H xs cells) (n:Nat) (hn:n ≤ xs.length):d.rows H (xs.take n) (cells.take (n * d.sz)):=by
  refine ⟨by rw [List.length_take,h.1,List.length_take,Nat.min_eq_left (Nat.mul_le_mul_right _ hn),Nat.min_eq_left hn],fun i x hx => ?_⟩
  rw [List.getElem?_take] at hx
  split at hx
  · rename_i hi
    obtain ⟨c,h1,h2⟩:=h.2 i x hx
    refine ⟨c,h1,?_⟩
    have:(i + 1) * d.sz ≤ n * d.sz:=Nat.mul_le_mul_right _ hi
    rw [Nat.add_mul,Nat.one_mul] at this
    rw [List.drop_take,List.take_take,Nat.min_eq_left (by omega)]
    exact h2
  · cases hx
theorem rows_drop (h:d.rows H xs cells) (n:Nat) (hn:n ≤ xs.length):d.rows H (xs.drop n) (cells.drop (n * d.sz)):=by
  refine ⟨by simp [h.1,Nat.sub_mul],fun i x hx => ?_⟩
  rw [List.getElem?_drop] at hx
  obtain ⟨c,h1,h2⟩:=h.2 _ x hx
  refine ⟨c,h1,?_⟩
  rw [List.drop_drop,← Nat.add_mul]
  exact h2
theorem rows_one_cell (h:d.rows H xs cells):∀ u ∈ cells,u.oneCell' = true:=by
  intro u hu
  obtain ⟨j,hj,rfl⟩:=List.mem_iff_getElem.1 hu
  have hlt:j / d.sz < xs.length:=by rw [h.1,Nat.mul_comm] at hj; exact Nat.div_lt_of_lt_mul hj
  obtain ⟨c,h1,h2⟩:=h.2 (j / d.sz) _ (List.getElem?_eq_getElem hlt)
  refine d.one h1 _ ?_
  rw [← h2]
  have hm:=Nat.mod_lt j d.pos
  have hd:=Nat.div_add_mod j d.sz
  rw [Nat.mul_comm] at hd
  refine List.mem_iff_getElem.2 ⟨j % d.sz,?_,?_⟩
  · simp; omega
  · simp [hd]
def sl (d:Kn α) (H:Hp) (A:Option Addr) (xs:List α):Prop:=∃ cells,Rd H A cells∧d.rows H xs cells
theorem sl_mono (h:d.sl H A xs) (hl:H.le H'):d.sl H' A xs:=let ⟨c,h1,h2⟩:=h; ⟨c,h1.mono hl,rows_mono h2 hl⟩
theorem sl_nil (A:Option Addr):d.sl H A []:=⟨[],Rd.nil A,rows_nil d H⟩
theorem sl_take (h:d.sl H A xs) (n:Nat) (hn:n ≤ xs.length):d.sl H A (xs.take n):=let ⟨c,h1,h2⟩:=h; ⟨_,h1.take _,rows_take h2 n hn⟩
theorem sl_drop (h:d.sl H A xs) {c:Nat} (n:Nat) (hn:n ≤ xs.length) (hc:xs.length ≤ c):d.sl H (cutA A c n d.sz) (xs.drop n):=let ⟨cs,h1,h2⟩:=h; ⟨_,h1.drop (n:=xs.length) h2.1 hc,rows_drop h2 n hn⟩
theorem sl_get (h:d.sl H A xs) (i:Nat) {x:α} (hx:xs[i]? = some x):∃ b off c,A = some ⟨b,off,none⟩∧d.rep H x c∧∀ {w:World} {L:List Res},St H w L → At w ⟨b,off + i * d.sz,none⟩ c:=by
  obtain ⟨cells,h1,h2⟩:=h
  obtain ⟨c,h3,h4⟩:=h2.2 i x hx
  have hi:=(List.getElem?_eq_some_iff.1 hx).1
  have hne:cells ≠ []:=fun e => by
    have h5:=h2.1
    rw [e] at h5
    have h6:0 < xs.length * d.sz:=Nat.mul_pos (by omega) d.pos
    simp at h5; omega
  obtain ⟨b,off,rfl,hat⟩:=h1.at_ hne
  refine ⟨b,off,c,rfl,h3,fun {w L} hs j u hu => ?_⟩
  have hj:=(List.getElem?_eq_some_iff.1 hu).1
  rw [add_none]
  have:=hat hs (i * d.sz + j) u ?_
  · rw [add_none] at this
    rwa [Nat.add_assoc]
  · rw [← h4,List.getElem?_take] at hu
    split at hu
    · rwa [List.getElem?_drop] at hu
    · cases hu
end Kn
end Go.FM

set_option linter.unusedVariables false
set_option linter.unusedSimpArgs false
namespace Go.FM
open Go
def fillL (place:Nat → Option (Nat × Nat)) (cells:List Value):List (Nat × Value) → Option (List Value)
  | [] => some cells
  | (i,v)::rest =>
    match place i with
    | none => none
    | some (off,size) => if v.cells.size ≠ size ∨ off + v.cells.size > cells.length then none else fillL place (splice cells off v.cells.toList) rest
theorem zip_fold:∀ (vs:List Value) (off k:Nat) (cells:List Value),off + k + vs.length ≤ cells.length →
    (vs.zipIdx k).foldl (fun (cs:Array Value) (p:Value × Nat) => cs.setIfInBounds (off + p.2) p.1) cells.toArray = (splice cells (off + k) vs).toArray
  | [],off,k,cells,h => by simp [splice]
  | v::vs,off,k,cells,h => by
    simp only [List.zipIdx_cons,List.foldl_cons]
    rw [List.setIfInBounds_toArray,zip_fold vs off (k + 1) (cells.set (off + k) v) (by simp at h ⊢; omega)]
    congr 1
    apply List.ext_getElem?
    intro j
    simp only [List.length_cons] at h
    rw [splice_get (by simp; omega),splice_get (by simp; omega)]
    simp only [List.length_cons]
    by_cases h1:off + (k + 1) ≤ j∧j < off + (k + 1) + vs.length
    · rw [if_pos h1,if_pos (by omega),show j - (off + k) = (j - (off + (k + 1))) + 1 by omega,List.getElem?_cons_succ]
    · rw [if_neg h1]
      by_cases h2:j = off + k
      · rw [if_pos (by omega),h2,Nat.sub_self,List.getElem?_cons_zero,List.getElem?_set]
        simp; omega
      · rw [if_neg (by omega),List.getElem?_set,if_neg (by omega)]
theorem fill_list (place:Nat → Option (Nat × Nat)):∀ (ps:List (Nat × Value)) (cells cs:List Value),fillL place cells ps = some cs → Instr.fill place cells.toArray ps = some cs.toArray
  | [],cells,cs,h => by simp only [fillL] at h; injection h with h; subst h; rfl
  | (i,v)::ps,cells,cs,h => by
    simp only [fillL] at h
    simp only [Instr.fill]
    cases hp:place i with
    | none => rw [hp] at h; cases h
    | some q =>
      obtain ⟨off,size⟩:=q
      rw [hp] at h
      simp only at h ⊢
      split at h
      · cases h
      · rename_i hc
        have h1:v.cells.size = size:=by omega
        have h2:off + v.cells.size ≤ cells.length:=by omega
        rw [if_neg (by simp; omega)]
        have hz:=zip_fold v.cells.toList off 0 cells (by simp; omega)
        have e:v.cells.zipIdx.foldl (fun (cs:Array Value) (p:Value × Nat) => cs.setIfInBounds (off + p.2) p.1) cells.toArray = (splice cells off v.cells.toList).toArray:=by
          rw [← Array.foldl_toList,Array.toList_zipIdx]
          exact hz
        have ih:=fill_list place ps _ cs h
        rw [← e] at ih
        exact ih
theorem range_cells (z:List Value) (n:Nat) (h:0 < z.length):(Array.range (n * z.length)).map (fun i => z.toArray[i % z.toArray.size]!) = ((List.replicate n z).flatten).toArray:=by
  apply Array.ext_getElem?
  intro j
  simp only [Array.getElem?_map,Array.getElem?_range,List.getElem?_toArray,List.size_toArray]
  induction n generalizing j with
  | zero => simp
  | succ n ih =>
    rw [List.replicate_succ',List.flatten_append]
    have hl:(List.replicate n z).flatten.length = n * z.length:=by simp
    by_cases h1:j < n * z.length
    · have h2:j < (n + 1) * z.length:=by rw [Nat.add_mul]; omega
      rw [List.getElem?_append_left (by rw [hl]; exact h1),← ih j,if_pos h1,if_pos h2]
    · rw [List.getElem?_append_right (by rw [hl]; omega),hl]
      by_cases h2:j < (n + 1) * z.length
      · rw [if_pos h2]
        have e:j % z.length = j - n * z.length:=by
          rw [Nat.add_mul,Nat.one_mul] at h2
          have:j = (j - n * z.length) + n * z.length:=by omega
          rw [this,Nat.add_mul_mod_self_right,Nat.mod_eq_of_lt (by omega)]; omega
        have h3:j - n * z.length < z.length:=by rw [Nat.add_mul,Nat.one_mul] at h2; omega
        simp [e,h3]
      · rw [if_neg h2]
        have h3:z.length ≤ j - n * z.length:=by rw [Nat.add_mul,Nat.one_mul] at h2; omega
        simp [h3]
end Go.FM

set_option linter.unusedVariables false
set_option linter.unusedSimpArgs false
namespace Go.FM
open Go
def Inf (P:Program) (T:TypeId) (z:Value) (s b:Nat):Prop:=∃ i0,P.info? T = some i0∧i0.zero = some z∧i0.size = s∧i0.bytes = b
theorem Inf.mk {P:Program} {T:TypeId} {z:Value} {s b:Nat} (h:(P.info? T).map (fun i => (i.zero,i.size,i.bytes)) = some (some z,s,b)):Inf P T z s b:=by
  obtain ⟨i0,h1,h2⟩:=Option.map_eq_some_iff.1 h
  simp only [Prod.mk.injEq] at h2
  exact ⟨i0,h1,h2.1,h2.2.1,h2.2.2⟩
def Cb (P:Program) (f:FuncId):Prop:=∃ fn,P.funcs[f]? = some fn∧(fn.name == "runtime.NumGoroutine") = false∧fn.body.isSome = true
section
variable {P:Program} {Q:Exit → Act → World → Prop} {N:Nat} {ρ:Nat → Value} {w w':World} {ops:Array Oper} {rest:List Oper}
variable {d ty:Nat} {pos:String} {aft:Array Edge} {g:Option (Nat × Bool)}
theorem evs0:(#[]:Array Operand).map (en N ρ).eval = #[]:=by simp
theorem evs1 {x:Operand} {v:Value} (h:Ev N ρ x v):(#[x]:Array Operand).map (en N ρ).eval = #[v]:=by
  have e:(en N ρ).eval x = v:=h
  simp [e]
theorem evs2 {x y:Operand} {v u:Value} (h:Ev N ρ x v) (k:Ev N ρ y u):(#[x,y]:Array Operand).map (en N ρ).eval = #[v,u]:=by
  have e:(en N ρ).eval x = v:=h
  have e2:(en N ρ).eval y = u:=k
  simp [e,e2]
def Evp (N:Nat) (ρ:Nat → Value) (l:List (Nat × Operand)) (vs:List (Nat × Value)):Prop:=l.map (fun p => (p.1,(en N ρ).eval p.2)) = vs
theorem Evp.nil:Evp N ρ [] []:=rfl
theorem Evp.cons {i:Nat} {x:Operand} {v:Value} {l:List (Nat × Operand)} {vs:List (Nat × Value)} (h:Ev N ρ x v) (k:Evp N ρ l vs):Evp N ρ ((i,x)::l) ((i,v)::vs):=by
  have e:(en N ρ).eval x = v:=h
  have k':l.map (fun p => (p.1,(en N ρ).eval p.2)) = vs:=k
  show (i,(en N ρ).eval x)::_ = _
  rw [k',e]
theorem Evp.arr {l:List (Nat × Operand)} {vs:List (Nat × Value)} (h:Evp N ρ l vs):l.toArray.map (fun p => (p.1,(en N ρ).eval p.2)) = vs.toArray:=by
  rw [List.map_toArray,h]
theorem st_c {f:FuncId} {fv:Operand} {xs:Array Operand} {ats:Array TypeId} {vs:Array Value} {R:Ending → World → Prop} (cb:Cb P f)
    (hfv:Ev N ρ fv (.func (.func f) #[] #[])) (hvs:xs.map (en N ρ).eval = vs)
    (hc:Calls P f vs w R) (h:∀ e w',R e w' → ∃ v,e = .returned v∧wpList P ops Q rest (en N (up ρ d v)) w') :
    wpList P ops Q (⟨some d,.call { callee:=.value fv,args:=xs,argTypes:=ats },ty,pos,aft,none⟩::rest) (en N ρ) w:=by
  obtain ⟨fn,h1,h2,h3⟩:=cb
  refine st_call (c:=.skip) (fn:=fn) hfv hvs h1 (by simpa using h2) h3 (R:=R) ?_ h
  simpa using hc
theorem st_cc {f:FuncId} {fv:Operand} {cap:Array Value} {xs:Array Operand} {ats:Array TypeId} {vs us:Array Value} {R:Ending → World → Prop} (cb:Cb P f)
    (hfv:Ev N ρ fv (.func (.func f) #[] cap)) (hvs:xs.map (en N ρ).eval = vs) (hus:vs ++ cap = us)
    (hc:Calls P f us w R) (h:∀ e w',R e w' → ∃ v,e = .returned v∧wpList P ops Q rest (en N (up ρ d v)) w') :
    wpList P ops Q (⟨some d,.call { callee:=.value fv,args:=xs,argTypes:=ats },ty,pos,aft,none⟩::rest) (en N ρ) w:=by
  obtain ⟨fn,h1,h2,h3⟩:=cb
  refine st_call (c:=.skip) (fn:=fn) hfv hvs h1 (by simpa using h2) h3 (R:=R) ?_ h
  rw [hus]; exact hc
theorem yn {j dj:Nat} (ho:(ops[j]?).bind (·.dst) = some dj) (hv:ρ dj = .tuple #[]):yielded ops (en N ρ).tmps j = none:=by
  unfold yielded
  rw [ho]
  by_cases h1:dj < N
  · simp [en,h1,hv,undef]
  · simp [en,h1]
theorem g_no0 {op:Op} {j:Nat} {b:Bool} (hy:yielded ops (en N ρ).tmps j = none) (h:wpList P ops Q rest (en N (up ρ d (.tuple #[]))) w):wpList P ops Q (⟨some d,op,ty,pos,aft,some (j,b)⟩::rest) (en N ρ) w:=by
  unfold wpList
  rw [if_neg (by simp [Region.wanted,hy]),en_put]
  exact h
theorem st_m {op:Op} {F:Value → World → Prop} (h:∃ v w',Ex P N ρ w op ty v w'∧F v w') (k:∀ v w',F v w' → wpList P ops Q rest (en N (up ρ d v)) w'):wpList P ops Q (⟨some d,op,ty,pos,aft,none⟩::rest) (en N ρ) w:=by
  obtain ⟨v,w',hr,hF⟩:=h
  exact st hr (k v w' hF)
theorem st_m0 {op:Op} {F:World → Prop} (h:∃ w',Ex0 P N ρ w op ty w'∧F w') (k:∀ w',F w' → wpList P ops Q rest (en N ρ) w'):wpList P ops Q (⟨none,op,ty,pos,aft,none⟩::rest) (en N ρ) w:=by
  obtain ⟨w',hr,hF⟩:=h
  exact st0 hr (k w' hF)
variable {H:Hp} {L:List Res}
theorem q_region {id:Nat} {l:List Oper} (hm:P.follows .mixedOrders = true) (hs:St H w L) (hB:Region.lexB .any l.toArray = true)
    (h:wpQuiet P l.toArray (fun w' => St H w' L) (fun a' => ∀ w',St H w' L → Q .normal a' w') l (en N ρ)):(Code.region id l.toArray true).wp P Q (en N ρ) w :=
  wp_region_quiet (C:=fun w' => St H w' L) hm hB (hs.drawn _) h
section
variable {C:World → Prop} {Qa:Act → Prop}
theorem q_nil (h:Qa (en N ρ)):wpQuiet P ops C Qa [] (en N ρ):=h
theorem q_st {op:Op} {v:Value} (hr:∀ w,C w → Ex P N ρ w op ty v w) (h:wpQuiet P ops C Qa rest (en N (up ρ d v))):wpQuiet P ops C Qa (⟨some d,op,ty,pos,aft,none⟩::rest) (en N ρ):=by
  unfold wpQuiet
  rw [if_pos (by simp [Region.wanted])]
  refine ⟨v,fun w hw => ?_,by rw [en_put]; exact h⟩
  unfold Oper.quietAt
  rw [hr w hw]
  exact ⟨rfl,rfl⟩
theorem q_yes {o:Option Tmp} {op:Op} {j:Nat} {b:Bool} (hy:yielded ops (en N ρ).tmps j = some b) (h:wpQuiet P ops C Qa (⟨o,op,ty,pos,aft,none⟩::rest) (en N ρ)):wpQuiet P ops C Qa (⟨o,op,ty,pos,aft,some (j,b)⟩::rest) (en N ρ):=by
  have h':=h
  unfold wpQuiet at h' ⊢
  rw [if_pos (by simp [Region.wanted])] at h'
  rw [if_pos (by simp [Region.wanted,hy])]
  exact h'
theorem q_no {op:Op} {j:Nat} {b c:Bool} (hy:yielded ops (en N ρ).tmps j = some c) (hn:(c == b) = false) (h:wpQuiet P ops C Qa rest (en N (up ρ d (.tuple #[])))):wpQuiet P ops C Qa (⟨some d,op,ty,pos,aft,some (j,b)⟩::rest) (en N ρ):=by
  unfold wpQuiet
  have e2:Region.wanted ⟨some d,op,ty,pos,aft,some (j,b)⟩ (yielded ops (en N ρ).tmps) = false:=by
    simp [Region.wanted,hy]
    simpa using hn
  rw [if_neg (by simp [e2]),en_put]
  exact h
theorem q_c {f:FuncId} {fv:Operand} {xs:Array Operand} {ats:Array TypeId} {vs:Array Value} {v:Value} (cb:Cb P f)
    (hfv:Ev N ρ fv (.func (.func f) #[] #[])) (hvs:xs.map (en N ρ).eval = vs)
    (hc:∀ w,C w → Calls P f vs w (fun e w' => e = .returned v∧C w')) (h:wpQuiet P ops C Qa rest (en N (up ρ d v))) :
    wpQuiet P ops C Qa (⟨some d,.call { callee:=.value fv,args:=xs,argTypes:=ats },ty,pos,aft,none⟩::rest) (en N ρ):=by
  obtain ⟨fn,h1,h2,h3⟩:=cb
  have hb':fn.body ≠ none:=fun hh => by rw [hh] at h3; cases h3
  have hfv':(en N ρ).eval fv = .func (.func f) #[] #[]:=hfv
  unfold wpQuiet
  rw [if_pos (by simp [Region.wanted])]
  refine ⟨v,fun w hw => ?_,by rw [en_put]; exact h⟩
  unfold Oper.quietAt
  have hn:fn.name ≠ "runtime.NumGoroutine":=by simpa using h2
  have:(execOp (en N ρ).eval ⟨some d,.call { callee:=.value fv,args:=xs,argTypes:=ats },ty,pos,aft,none⟩).run P w = .ok (.enter f vs) w:=by
    simp [execOp,resolve,Deferred.ofValue,hfv',hvs,invoke,callFunc,h1,hn,hb']
  rw [this]
  exact ⟨rfl,hc w hw⟩
end
end
theorem w64 {z:Int} (h1:-9223372036854775808 ≤ z) (h2:z ≤ 9223372036854775807):IntKind.i64.wrap z = z:=by
  rw [IntKind.wrap_i64]; omega
theorem wU {k:IntKind} (hk:k.signed = false) {z:Int} {n:Nat} (h:z = n) (hb:n < 2 ^ k.bits):k.wrap z = n:=by
  rw [h]; exact wrap_nat k hk n hb
theorem wrapU (k:IntKind) (hk:k.signed = false) (z:Int):k.wrap z = ((z % (2 ^ k.bits:Int)).toNat:Int):=by
  unfold IntKind.wrap
  rw [if_neg (by simp [hk])]
  have:0 ≤ z % (2 ^ k.bits:Int):=Int.emod_nonneg _ (by have:(0:Int) < 2 ^ k.bits:=Int.pow_pos (by omega); omega)
  omega
theorem wrapN (k:IntKind) (hk:k.signed = false) (n:Nat):k.wrap (n:Int) = ((n % 2 ^ k.bits:Nat):Int):=by
  rw [wrapU k hk]
  have:((n:Int) % (2 ^ k.bits:Int)) = ((n % 2 ^ k.bits:Nat):Int):=by push_cast; rfl
  rw [this,Int.toNat_natCast]
theorem At.cell {w:World} {b o:Nat} {cs:List Value} (h:At w ⟨b,o,none⟩ cs) (k:Nat) {v:Value} (hv:cs[k]? = some v):w.cell? ⟨b,o + k,none⟩ = some v:=by
  have:=h k v hv
  rwa [add_none] at this
theorem At.sub {w:World} {b o:Nat} {cs:List Value} (h:At w ⟨b,o,none⟩ cs) (k:Nat) {ds:List Value} (hd:(cs.drop k).take ds.length = ds):At w ⟨b,o + k,none⟩ ds:=by
  intro j u hu
  rw [add_none]
  have hj:=(List.getElem?_eq_some_iff.1 hu).1
  rw [← hd,List.getElem?_take,if_pos hj,List.getElem?_drop] at hu
  have:=h (k + j) u hu
  rw [add_none] at this
  rwa [Nat.add_assoc]
section
variable {P:Program} {N:Nat} {ρ:Nat → Value} {H:Hp} {w w':World} {L:List Res} {t ty e size bytes n m c:Nat} {v:Value} {xs news:List Value} {x y:Operand} {z:Value} {xt yt:TypeId}
theorem one1 {v:Value} (h:v.oneCell' = true:=by rfl) (hc:v.cells = #[v]:=by rfl):∀ u ∈ v.cells.toList,u.oneCell' = true:=by
  intro u hu
  rw [hc] at hu
  simp at hu
  rw [hu]; exact h
theorem m_app (hu:P.underlying t = some (.slice e)) (hi:Inf P e z size bytes) (hzs:z.cells.size = size) (h0:0 < size)
    (h:St H w (row e size v n xs::L)) (ok:RowOk size v n xs) (hx:Ev N ρ x v) {a:Addr} (hy:Ev N ρ y (.slice (some a) m c)) (hl:news.length = m * size) (hnews:At w a news) (h1:∀ u ∈ news,u.oneCell' = true)
    (hb:(n + m) * bytes ≤ 140737488355328) (hb0:0 < bytes) :
    ∃ v' w',Ex P N ρ w (.call { callee:=.builtin .append,args:=#[x,y],argTypes:=#[t,t] }) ty v' w'∧RowOk size v' (n + m) (xs ++ news)∧St H w' (row e size v' (n + m) (xs ++ news)::L):=by
  obtain ⟨i0,e1,e2,e3,e4⟩:=hi
  exact m_append hu e1 e2 e3 e4 hzs h0 h ok hx hy hl hnews h1 hb hb0
theorem m_lit {parts:List (Nat × Operand)} {ps:List (Nat × Value)} {cs:List Value} (hu:P.underlying t = some (.slice e)) (hi:Inf P e z size bytes)
    (hps:Evp N ρ parts ps) (hn:n * size ≤ 16777216) (h0:n * size ≠ 0)
    (hzs:z.cells.toList.length = size) (hf:fillL (fun i => some (i * size,size)) ((List.replicate n z.cells.toList).flatten) ps = some cs) (h:St H w L) :
    ∃ v' w',Ex P N ρ w (.buildSlice t n parts.toArray) ty v' w'∧∃ g,v' = .slice (some ⟨g,0,none⟩) n n∧St H w' (obj g e cs::L):=by
  obtain ⟨i0,e1,e2,rfl,_⟩:=hi
  have hp:0 < z.cells.toList.length:=by
    rcases Nat.eq_zero_or_pos z.cells.toList.length with h1 | h1
    · rw [h1] at hzs; rw [← hzs] at h0; simp at h0
    · exact h1
  have hr:=range_cells z.cells.toList n hp
  rw [Array.toArray_toList,hzs] at hr
  refine m_buildSlice hu e1 e2 hps.arr hn h0 ?_ rfl h
  rw [hr]
  exact fill_list _ _ _ _ hf
theorem x_bld {fs:Array Field} {s b:Nat} {places:List (Nat × Nat)} {parts:List (Nat × Operand)} {ps:List (Nat × Value)} {cs:List Value} (hu:P.underlying t = some (.struct fs)) (hi:Inf P t z s b)
    (hps:Evp N ρ parts ps) (hpl:fs.toList.map (fun (f:Field) => (f.offset,((P.info? f.type).map (·.size)))) = places.map (fun p => (p.1,some p.2)))
    (hf:fillL (places[·]?) z.cells.toList ps = some cs):Ex P N ρ w (.build t parts.toArray) ty (.agg cs.toArray) w:=by
  obtain ⟨i0,e1,e2,_,_⟩:=hi
  refine x_build (places:=places) hu e1 e2 hps.arr hpl ?_
  have:=fill_list _ _ _ _ hf
  rwa [Array.toArray_toList] at this
theorem x_quoN {k:IntKind} {m n:Nat} (hx:Ev N ρ x (.int k (m:Int))) (hy:Ev N ρ y (.int k (n:Int))) (h0:n ≠ 0) (hb:-9223372036854775808 ≤ ((m / n:Nat):Int)∧k = .i64∧((m / n:Nat):Int) ≤ 9223372036854775807 ∨ k.signed = false∧m < 2 ^ k.bits):Ex P N ρ w (.binOp .quo xt x y yt) ty (.int k ((m / n:Nat):Int)) w:=by
  refine x_quo hx hy (by omega) ?_
  have:(m:Int).tdiv (n:Int) = ((m / n:Nat):Int):=by rw [← Int.ofNat_tdiv]
  rw [this]
  rcases hb with ⟨h1,rfl,h2⟩ | ⟨h1,h2⟩
  · exact w64 h1 h2
  · exact wrap_nat k h1 _ (Nat.lt_of_le_of_lt (Nat.div_le_self _ _) h2)
theorem x_remN {k:IntKind} {m n:Nat} (hx:Ev N ρ x (.int k (m:Int))) (hy:Ev N ρ y (.int k (n:Int))) (h0:n ≠ 0):Ex P N ρ w (.binOp .rem xt x y yt) ty (.int k ((m % n:Nat):Int)) w :=
  x_rem hx hy (by omega) (by rw [← Int.ofNat_tmod])
end
section
variable {P:Program} {N:Nat} {ρ:Nat → Value} {w:World} {d t ty:Nat} {xs ys:Array Value} {x y:Operand} {yt:TypeId}
def EqF (P:Program) (w:World) (d:Nat) (xs ys:Array Value) (l:List Field) (r:Bool):Prop:=(Op.eqFields d xs ys l).run P w = .ok r w
theorem EqF.nil:EqF P w d xs ys [] true:=by simp [EqF,Op.eqFields]
theorem EqF.cons {f:Field} {l:List Field} {a b:Value} {r s:Bool} (hn:(f.name == "_") = false) (ha:(part f.type xs f.offset).run P w = .ok a w) (hb:(part f.type ys f.offset).run P w = .ok b w)
    (he:(Op.equalIn d f.type a b).run P w = .ok r w) (hr:EqF P w d xs ys l s):EqF P w d xs ys (f::l) (r && s):=by
  have hn':f.name ≠ "_":=by simpa using hn
  unfold EqF at hr ⊢
  rw [Op.eqFields]
  simp only [if_pos hn',Sem.run_bind,ha,hb,he,Result.andThen_ok]
  cases r
  · simp
  · simpa using hr
theorem eq_struct {fs:Array Field} {r:Bool} (hu:P.underlying t = some (.struct fs)) (hp:P.stoodInHeld t = false) (h:EqF P w d xs ys fs.toList r):(Op.equalIn (d + 1) t (.agg xs) (.agg ys)).run P w = .ok r w:=by
  have hf:P.fieldsOf t = fs:=by simp [Program.fieldsOf,hu]
  rw [run_equalIn_struct (P:=P) w d t xs ys (by rw [hf]; exact hu) hp,hf]
  exact h
theorem part_one {t off:Nat} (hs:scalarT P t = true) {v:Value} (hv:xs[off]? = some v):(part t xs off).run P w = .ok v w:=by
  simp [part,run_isAgg_f hs,hv]
theorem eq_int' {k:IntKind} (hu:P.underlying t = some (.int k)) (a b:Int):(Op.equalIn (d + 1) t (.int k a) (.int k b)).run P w = .ok (a == b) w:=run_equalIn_int w d t k k a b hu
theorem x_eqlA {r:Bool} (hg:P.eqGuardType P.depth t = false) (hx:Ev N ρ x (.agg xs)) (hy:Ev N ρ y (.agg ys)) (h:∀ d,(Op.equalIn (d + 100) t (.agg xs) (.agg ys)).run P w = .ok r w):Ex P N ρ w (.binOp .eql t x y yt) ty (.bool r) w:=fun _ _ _ _ => by
  have h1:(en N ρ).eval x = .agg xs:=hx
  have h2:(en N ρ).eval y = .agg ys:=hy
  have h3:=h 9900
  simp only [execOp,h1,h2,Sem.run_bind,run_eqGuard_agg w .eql t x y xs ys hg,Result.andThen_ok,run_eql_struct,h3,Sem.run_pure]
theorem x_neqA {r:Bool} (hg:P.eqGuardType P.depth t = false) (hx:Ev N ρ x (.agg xs)) (hy:Ev N ρ y (.agg ys)) (h:∀ d,(Op.equalIn (d + 100) t (.agg xs) (.agg ys)).run P w = .ok r w):Ex P N ρ w (.binOp .neq t x y yt) ty (.bool (!r)) w:=fun _ _ _ _ => by
  have h1:(en N ρ).eval x = .agg xs:=hx
  have h2:(en N ρ).eval y = .agg ys:=hy
  have h3:=h 9900
  simp only [execOp,h1,h2,Sem.run_bind,run_eqGuard_agg w .neq t x y xs ys hg,Result.andThen_ok,run_neq_struct,h3,Sem.run_pure]
end
end Go.FM

set_option linter.unusedVariables false
set_option linter.unusedSimpArgs false
namespace Go.FM
open Go Go.ChangeShapes Go.WideShapes Go.ChangeAt Go.RowKit
def Hp.of (W:World):Hp:=⟨fun b => W.heap[b]?,W.os,W.output,W.tape⟩
theorem St.of (W:World):St (Hp.of W) W []:=⟨rfl,rfl,rfl,fun _ _ h => h,fun _ h => absurd h List.not_mem_nil,List.Pairwise.nil⟩
theorem St.below {W W':World} {L:List Res} (h:St (Hp.of W) W' L):Below W.heap.size W W':=by
  have hb:∀ k,k < W.heap.size → W'.heap[k]? = W.heap[k]?:=fun k hk => by
    have e:W.heap[k]? = some W.heap[k]:=Array.getElem?_eq_getElem hk
    exact (h.fz k _ e).trans e.symm
  refine ⟨h.os,h.tape,h.out,?_,hb⟩
  by_cases h0:W.heap.size = 0
  · omega
  · have h1:=hb (W.heap.size - 1) (by omega)
    have e:W.heap[W.heap.size - 1]? = some W.heap[W.heap.size - 1]:=Array.getElem?_eq_getElem (by omega)
    rw [e] at h1
    have:=(Array.getElem?_eq_some_iff.1 h1).1
    omega
section
variable {H:Type} {enc:TypeId × Value → H} {P:Program} {W W':World}
theorem trodAll_stays (hl:laidOutB P = true) (hb:Below W.heap.size W W'):∀ {ts:List TypeId} {vs:List Value} {ds:List (DataW H)} {ps:List MemPlace},
    (ts.all fun t => P.readableRec t && decide (t < P.types.size)) = true → DataW.TrodAll enc P W 0 (fun _ => true) true ts vs ds ps →
    DataW.TrodAll enc P W' 0 (fun b => decide (b < W.heap.size)) true ts vs ds ps
  | [],[],[],_,_,h => h
  | t::ts,v::vs,d::ds,_,hall,⟨p,q,h,hs,e⟩ => by
    rw [List.all_cons,Bool.and_eq_true,Bool.and_eq_true] at hall
    refine ⟨p,q,Below.trod hl hall.1.1 (of_decide_eq_true hall.1.2) h hb ?_,trodAll_stays hl hb hall.2 hs,e⟩
    obtain ⟨m,hm⟩:=h
    exact DataW.trod_lt m _ _ _ hm
theorem row_post {fn:Func} {s:ChangeSpec} {B:TypeId} {args:Array Value} {ds gs:List (DataW H)} {before:List MemPlace} (hl:laidOutB P = true)
    (hall:(fn.params.toList.all fun t => P.readableRec t && decide (t < P.types.size)) = true) (hr:fn.resultTypes = #[B]) (hB:P.underlying B = some .bool) (hvars:s.vars = [])
    (hfn:∀ ds:List (DataW H),ds.length = fn.params.toList.length → s.fn H ds = { results:=[.lit (.bool true)],args:=ds })
    (hW:DataW.Whole enc P fn.params.toList s.vars false W args.toList ds gs before) (bel:Below W.heap.size W W') :
    s.post enc P fn false true false false W args (.bool true) W':=by
  obtain ⟨p,q,hA,hV,rfl,hfz,hnd⟩:=id hW
  rw [hvars] at hV
  obtain ⟨rfl,rfl⟩:=trodVars_none hV
  have hlen:∀ {ts:List TypeId} {vs:List Value} {ds:List (DataW H)} {ps:List MemPlace},DataW.TrodAll enc P W 0 (fun _ => true) true ts vs ds ps → ds.length = ts.length:=by
    intro ts
    induction ts with
    | nil => intro vs ds ps h; obtain ⟨_,rfl,_⟩:=trodAll_nil h; rfl
    | cons t ts ih => intro vs ds ps h; obtain ⟨_,_,_,_,_,_,_,rfl,_,_,h2⟩:=trodAll_cons h; simp [ih h2]
  have e:=hfn (ds ++ []) (by simpa using hlen hA)
  refine ⟨ds,[],_,[],p,[],hW,?_,?_,?_,bel.frame _,fun h => by cases h⟩
  · rw [e,hr]
    exact trodAll_mk1 (shut_bool hB _)
  · rw [e]
    simp only [List.append_nil]
    exact trodAll_stays hl bel hall hA
  · rw [e,hvars]
    rfl
theorem row_calls {f:FuncId} {fn:Func} {s:ChangeSpec} {B:TypeId} {args:Array Value} {ds gs:List (DataW H)} {before:List MemPlace} (hl:laidOutB P = true)
    (hall:(fn.params.toList.all fun t => P.readableRec t && decide (t < P.types.size)) = true) (hr:fn.resultTypes = #[B]) (hB:P.underlying B = some .bool) (hvars:s.vars = [])
    (hfn:∀ ds:List (DataW H),ds.length = fn.params.toList.length → s.fn H ds = { results:=[.lit (.bool true)],args:=ds })
    (hW:DataW.Whole enc P fn.params.toList s.vars false W args.toList ds gs before)
    (hc:Calls P f args W fun e W' => e = .returned (.bool true)∧∃ L,St (Hp.of W) W' L) :
    Calls P f args W fun e W' => ∃ v,e = .returned v∧s.post enc P fn false true false false W args v W':=by
  refine hc.mono fun e W' ⟨he,L,h⟩ => ?_
  subst he
  exact ⟨_,rfl,row_post hl hall hr hB hvars hfn hW h.below⟩
end
section
variable {H:Type} {enc:TypeId × Value → H} {P:Program} {w:World} {base:Nat} {spare:Nat → Bool} {held:Bool} {r:Reach} {b0:Nat} {t:TypeId} {v:Value} {d:DataW H} {ps:List MemPlace}
theorem wf_nat {k:IntKind} {n:Int} (hk:k.signed = false) (h:(Lit.int k n).wf = true):∃ m:Nat,n = (m:Int)∧m < 2 ^ k.bits:=by
  cases k <;> simp [Lit.wf,IntKind.min,IntKind.max,IntKind.signed,IntKind.bits] at h hk ⊢ <;> exact ⟨n.toNat,by omega,by omega⟩
end
end Go.FM
namespace Go.FM
open Go Go.ChangeShapes Go.WideShapes Go.ChangeAt Go.RowKit
end Go.FM

set_option linter.unusedVariables false
set_option linter.unusedSimpArgs false
namespace Go.FM
open Go
def encB (b:Nat):Value:=.int .u8 ((b:Nat):Int)
def bstr (l:List Nat):ByteArray:=⟨(l.map UInt8.ofNat).toArray⟩
def Small (l:List Nat):Prop:=∀ b ∈ l,b < 256
theorem Small.nil:Small []:=fun _ h => absurd h List.not_mem_nil
theorem Small.append {l m:List Nat} (h:Small l) (k:Small m):Small (l ++ m):=fun b hb => (List.mem_append.1 hb).elim (h b) (k b)
theorem Small.take {l:List Nat} (h:Small l) (n:Nat):Small (l.take n):=fun b hb => h b (List.mem_of_mem_take hb)
theorem Small.drop {l:List Nat} (h:Small l) (n:Nat):Small (l.drop n):=fun b hb => h b (List.mem_of_mem_drop hb)
theorem Small.cons {l:List Nat} {a:Nat} (h:a < 256) (k:Small l):Small (a::l):=fun b hb => (List.mem_cons.1 hb).elim (fun e => e ▸ h) (k b)
theorem Small.one {a:Nat} (h:a < 256):Small [a]:=.cons h .nil
theorem Small.getD {l:List Nat} (h:Small l) (i:Nat):l.getD i 0 < 256:=by
  rw [List.getD_eq_getElem?_getD]
  cases e:l[i]? with
  | none => simp
  | some b => simpa using h b (List.mem_of_getElem? e)
theorem Small.set {l:List Nat} (h:Small l) (i:Nat) {a:Nat} (ha:a < 256):Small (l.set i a):=fun b hb => by
  rcases List.mem_or_eq_of_mem_set hb with h1 | h1
  · exact h b h1
  · rw [h1]; exact ha
theorem bstr_inj {l m:List Nat} (hl:Small l) (hm:Small m):bstr l = bstr m ↔ l = m:=by
  refine ⟨fun h => ?_,fun h => by rw [h]⟩
  have h1:(l.map UInt8.ofNat) = (m.map UInt8.ofNat):=by
    have:=congrArg (fun b:ByteArray => b.data.toList) h
    simpa [bstr] using this
  have key:∀ {l m:List Nat},Small l → Small m → l.map UInt8.ofNat = m.map UInt8.ofNat → l = m:=by
    intro l
    induction l with
    | nil => intro m _ _ h; cases m with | nil => rfl | cons _ _ => simp at h
    | cons a l ih =>
      intro m hl hm h
      cases m with
      | nil => simp at h
      | cons b m =>
        simp only [List.map_cons,List.cons.injEq] at h
        have ha:=hl a List.mem_cons_self
        have hb:=hm b List.mem_cons_self
        have e:a = b:=by
          have:=congrArg UInt8.toNat h.1
          simp only [UInt8.toNat_ofNat'] at this
          omega
        rw [e,ih (fun x hx => hl x (List.mem_cons_of_mem _ hx)) (fun x hx => hm x (List.mem_cons_of_mem _ hx)) h.2]
  exact key hl hm h1
structure Bs (H:Hp) (A:Option Addr) (n c:Nat) (bs:List Nat):Prop where
  rd:Rd H A (bs.map encB)
  len:bs.length = n
  le:n ≤ c
  max:c ≤ maxLen
  lt:Small bs
section
variable {H H':Hp} {A:Option Addr} {n c:Nat} {bs:List Nat}
theorem Bs.mono (h:Bs H A n c bs) (hl:H.le H'):Bs H' A n c bs:=⟨h.rd.mono hl,h.len,h.le,h.max,h.lt⟩
theorem Bs.nil (H:Hp) (A:Option Addr):Bs H A 0 0 []:=⟨Rd.nil A,rfl,Nat.le_refl _,Nat.zero_le _,Small.nil⟩
theorem Bs.take (h:Bs H A n c bs) {k:Nat} (hk:k ≤ n):Bs H A k c (bs.take k) :=
  ⟨by rw [List.map_take]; exact h.rd.take k,by rw [List.length_take,h.len]; omega,Nat.le_trans hk h.le,h.max,h.lt.take k⟩
theorem Bs.drop (h:Bs H A n c bs) {k:Nat} (hk:k ≤ n):Bs H (cutA A c k 1) (n - k) (c - k) (bs.drop k):=by
  refine ⟨?_,by rw [List.length_drop,h.len],by have:=h.le; omega,by have:=h.max; omega,h.lt.drop k⟩
  have:=h.rd.drop (n:=n) (c:=c) (l:=k) (size:=1) (by simp [h.len]) h.le
  rw [Nat.mul_one] at this
  rwa [List.map_drop]
theorem Bs.get (h:Bs H A n c bs) {i:Nat} (hi:i < n):∃ b off,A = some ⟨b,off,none⟩∧∀ {w:World} {L:List Res},St H w L → w.cell? ⟨b,off + i * 1,none⟩ = some (.int .u8 ((bs.getD i 0:Nat):Int)):=by
  have hne:bs.map encB ≠ []:=fun e => by
    have:=congrArg List.length e
    simp [h.len] at this
    omega
  obtain ⟨b,off,hA,hat⟩:=h.rd.at_ hne
  refine ⟨b,off,hA,fun {w L} hs => ?_⟩
  have hi':i < bs.length:=by rw [h.len]; exact hi
  have:=(hat hs).cell i (v:=encB (bs.getD i 0)) (by simp [hi'])
  simpa [encB] using this
theorem Bs.at_ (h:Bs H A n c bs):bs = [] ∨ ∃ b off,A = some ⟨b,off,none⟩∧∀ {w:World} {L:List Res},St H w L → At w ⟨b,off,none⟩ (bs.map encB):=by
  by_cases hb:bs = []
  · exact .inl hb
  · exact .inr (h.rd.at_ (by simpa using hb))
end
theorem one_encB:∀ (l:List Nat),∀ u ∈ l.map encB,u.oneCell' = true:=fun l u hu => by
  obtain ⟨b,_,rfl⟩:=List.mem_map.1 hu
  rfl
theorem bstr_fold:∀ (l:List Nat) (s:ByteArray),((l.map fun b => ((b:Nat):Int)).foldl (fun r n => r.push (UInt8.ofNat n.toNat)) s) = s ++ bstr l
  | [],s => by
    apply ByteArray.ext
    simp [bstr,ByteArray.data_append]
  | b::l,s => by
    rw [List.map_cons,List.foldl_cons,bstr_fold l]
    apply ByteArray.ext
    simp [bstr,ByteArray.data_append]
section
variable {P:Program} {N:Nat} {ρ:Nat → Value} {H:Hp} {w w':World} {L:List Res} {t ty e n m c src dst:Nat} {A:Option Addr} {x y:Operand} {bs:List Nat}
theorem x_bytesStr (hs:P.underlying src = some (.slice e)) (he:P.underlying e = some (.int .u8)) (hd:P.underlying dst = some .string) (hx:Ev N ρ x (.slice A n c)) (hl:bs.length = n)
    (h:bs = [] ∨ ∃ a,A = some a∧At w a (bs.map encB)):Ex P N ρ w (.convert src dst x) ty (.string (bstr bs)) w:=fun _ _ _ _ => by
  have h1:(en N ρ).eval x = .slice A n c:=hx
  have:(Conv.bytesToString (.slice A n c)).run P w = .ok (.string (bstr bs)) w:=by
    cases A with
    | none =>
      rcases h with rfl | ⟨a,ha,_⟩
      · rfl
      · cases ha
    | some a =>
      have hc:At w a (bs.map encB):=by
        rcases h with rfl | ⟨a',ha,hat⟩
        · intro j v hv; simp at hv
        · injection ha with ha; subst ha; exact hat
      have:=run_loadCells_list (P:=P) w a (bs.map encB) hc
      rw [List.length_map,hl] at this
      rw [run_bytesToString w a n c (bs.map fun b => ((b:Nat):Int)) (by rw [this,List.map_map]; rfl)]
      rw [bstr_fold]
      congr 2
  simp [execOp,h1,run_convert_bytes_string w src dst e A n c hs he hd,this]
theorem Bs.str (hs:P.underlying src = some (.slice e)) (he:P.underlying e = some (.int .u8)) (hd:P.underlying dst = some .string) (hb:Bs H A n c bs) (h:St H w L) (hx:Ev N ρ x (.slice A n c)) :
    Ex P N ρ w (.convert src dst x) ty (.string (bstr bs)) w :=
  x_bytesStr hs he hd hx hb.len (hb.at_.imp id fun ⟨b,off,hA,hat⟩ => ⟨_,hA,hat h⟩)
theorem St.rowStr {v:Value} (hs:P.underlying src = some (.slice e)) (he:P.underlying e = some (.int .u8)) (hd:P.underlying dst = some .string) (h:St H w L) (i:Nat) (hi:L[i]? = some (row e 1 v n (bs.map encB))) (ok:RowOk 1 v n (bs.map encB)) (hx:Ev N ρ x v) :
    Ex P N ρ w (.convert src dst x) ty (.string (bstr bs)) w:=by
  obtain ⟨A,c,rfl,_⟩:=ok.slice
  refine x_bytesStr hs he hd hx (by have:=ok.1; simpa using this) ?_
  rcases h.rowAll i hi ok with h1 | ⟨a,⟨c',e1⟩,hat⟩
  · exact .inl (by simpa using h1)
  · injection e1 with e1 _ _
    exact .inr ⟨a,e1,hat⟩
theorem str_beq (a b:ByteArray):(a.toList == b.toList) = decide (a = b):=by
  have this:(a.toList == b.toList) = true ↔ a = b:=by
    rw [beq_iff_eq,ByteArray.toList_eq,ByteArray.toList_eq]
    exact ⟨fun h => ByteArray.ext (Array.toList_inj.1 h),fun h => by rw [h]⟩
  by_cases h:a = b
  · simp [h]
  · rw [decide_eq_false h]
    cases e:(a.toList == b.toList) with
    | false => rfl
    | true => exact absurd (this.1 e) h
theorem x_eqlS {a b:ByteArray} {yt:TypeId} (hx:Ev N ρ x (.string a)) (hy:Ev N ρ y (.string b)):Ex P N ρ w (.binOp .eql t x y yt) ty (.bool (decide (a = b))) w:=fun _ _ _ _ => by
  have h1:(en N ρ).eval x = .string a:=hx
  have h2:(en N ρ).eval y = .string b:=hy
  simp only [execOp,h1,h2,eqGuard_at_string,binOp_string_eql,str_beq]
  rfl
theorem x_neqS {a b:ByteArray} {yt:TypeId} (hx:Ev N ρ x (.string a)) (hy:Ev N ρ y (.string b)):Ex P N ρ w (.binOp .neq t x y yt) ty (.bool (!decide (a = b))) w:=fun _ _ _ _ => by
  have h1:(en N ρ).eval x = .string a:=hx
  have h2:(en N ρ).eval y = .string b:=hy
  simp only [execOp,h1,h2,eqGuard_at_string,binOp_string_neq,str_beq]
  rfl
end
end Go.FM

set_option linter.unusedVariables false
set_option linter.unusedSimpArgs false
namespace Go.FM
open Go
section
variable {P:Program} {N:Nat} {ρ:Nat → Value} {H:Hp} {w w':World} {L:List Res} {t ty e n m c src dst:Nat} {A:Option Addr} {x y:Operand} {bs l:List Nat} {v:Value}
theorem m_appBs (hu:P.underlying t = some (.slice e)) (hi:Inf P e (.int .u8 0) 1 1) (h:St H w (row e 1 v n (l.map encB)::L)) (ok:RowOk 1 v n (l.map encB)) (hx:Ev N ρ x v) (hy:Ev N ρ y (.slice A m c)) (hb:Bs H A m c bs) (hm:n + m ≤ 140737488355328) :
    ∃ v' w',Ex P N ρ w (.call { callee:=.builtin .append,args:=#[x,y],argTypes:=#[t,t] }) ty v' w'∧RowOk 1 v' (n + m) ((l ++ bs).map encB)∧St H w' (row e 1 v' (n + m) ((l ++ bs).map encB)::L):=by
  rcases hb.at_ with rfl | ⟨b,off,rfl,hat⟩
  · have hl:m = 0:=by rw [← hb.len]; rfl
    subst hl
    obtain ⟨i0,e1,_⟩:=hi
    exact ⟨v,w,m_append0 hu e1 h ok hx hy,by simpa using ok,by simpa using h⟩
  · rw [List.map_append]
    refine m_app hu hi rfl (by decide) h ok hx hy (by simp [hb.len]) (hat h) (one_encB bs) (by omega) (by decide)
theorem m_appNil (hu:P.underlying t = some (.slice e)) (hi:Inf P e (.int .u8 0) 1 1) (h:St H w L) (hx:Ev N ρ x (.slice none 0 0)) (hy:Ev N ρ y (.slice A m c)) (hb:Bs H A m c bs) (hm:m ≤ 140737488355328) :
    ∃ v' w',Ex P N ρ w (.call { callee:=.builtin .append,args:=#[x,y],argTypes:=#[t,t] }) ty v' w'∧RowOk 1 v' m (bs.map encB)∧St H w' (row e 1 v' m (bs.map encB)::L):=by
  have:=m_appBs (l:=[]) (ty:=ty) hu hi (h.rowNil e 1) (RowOk.nil 1) hx hy hb (by omega)
  simpa using this
theorem x_sliceArr (ha:P.underlying t = some (.array n e)) {b o:Nat} (hi:Inf P e v 1 c) (hx:Ev N ρ x (.pointer (some ⟨b,o,none⟩))) :
    Ex P N ρ w (.slice t x none none none) ty (.slice (some ⟨b,o,none⟩) n n) w:=fun _ _ _ _ => by
  have h1:(en N ρ).eval x = .pointer (some ⟨b,o,none⟩):=hx
  obtain ⟨i0,e1,_,e3,_⟩:=hi
  have:(Instr.sliceAt t (.pointer (some ⟨b,o,none⟩)) none none none).run P w = .ok (.slice (some ⟨b,o,none⟩) n n) w:=by
    simp only [Instr.sliceAt,Sem.run_bind,run_underlying ha,Result.andThen_ok,Instr.sureAddr,Sem.run_pure]
    simp [Instr.sliceBounds,sizeOf,typeInfo,e1,e3]
    intro h0
    exact add_none b o 0
  simp [execOp,h1,this]
theorem x_toArray (ha:P.underlying t = some (.array n e)) (hx:Ev N ρ x (.slice A m c)) (hn:n ≤ m):Ex P N ρ w (.sliceToArrayPointer t x) ty (.pointer A) w:=fun _ _ _ _ => by
  have h1:(en N ρ).eval x = .slice A m c:=hx
  simp [execOp,h1,run_arrayAt w t e n A m c ha hn]
theorem run_eqArr4 (d:Nat) (ha:P.underlying t = some (.array 4 e)) (he:P.underlying e = some (.int .u8)) (hs:scalarT P e = true) (hi:Inf P e (.int .u8 0) 1 1) (a0 a1 a2 a3 b0 b1 b2 b3:Int) :
    (Op.equalIn (d + 2) t (.agg #[.int .u8 a0,.int .u8 a1,.int .u8 a2,.int .u8 a3]) (.agg #[.int .u8 b0,.int .u8 b1,.int .u8 b2,.int .u8 b3])).run P w =
      .ok (a0 == b0 && (a1 == b1 && (a2 == b2 && a3 == b3))) w:=by
  obtain ⟨i0,e1,_,e3,_⟩:=hi
  have p0:∀ (z0 z1 z2 z3:Value),(part e #[z0,z1,z2,z3] 0).run P w = .ok z0 w:=fun z0 z1 z2 z3 => part_one hs rfl
  have p1:∀ (z0 z1 z2 z3:Value),(part e #[z0,z1,z2,z3] 1).run P w = .ok z1 w:=fun z0 z1 z2 z3 => part_one hs rfl
  have p2:∀ (z0 z1 z2 z3:Value),(part e #[z0,z1,z2,z3] 2).run P w = .ok z2 w:=fun z0 z1 z2 z3 => part_one hs rfl
  have p3:∀ (z0 z1 z2 z3:Value),(part e #[z0,z1,z2,z3] 3).run P w = .ok z3 w:=fun z0 z1 z2 z3 => part_one hs rfl
  have q:∀ a b:Int,(Op.equalIn (d + 1) e (.int .u8 a) (.int .u8 b)).run P w = .ok (a == b) w:=fun a b => eq_int' he a b
  have hr:List.range' 0 4 1 = [0,1,2,3]:=rfl
  rw [Op.equalIn]
  simp only [Sem.run_bind,run_underlying ha,Result.andThen_ok,sizeOf,typeInfo]
  simp [e1,e3,Std.Legacy.Range.forIn_eq_forIn_range',Std.Legacy.Range.size,hr,p0,p1,p2,p3,q]
  by_cases h0:a0 = b0 <;> by_cases h1:a1 = b1 <;> by_cases h2:a2 = b2 <;> by_cases h3:a3 = b3 <;> simp [h0,h1,h2,h3,p0,p1,p2,p3,q]
theorem bs_h {a:Int} {k:IntKind} {hi_:Operand} (hu:P.underlying t = some (.slice e)) (hi:Inf P e (.int .u8 0) 1 1) (hx:Ev N ρ x (.slice A n c)) (hh:Ev N ρ hi_ (.int k a)) (h0:0 ≤ a) (h2:a ≤ c) :
    Ex P N ρ w (.slice t x none (some hi_) none) ty (.slice A a.toNat c) w:=by
  obtain ⟨i0,e1,_⟩:=hi
  exact x_slice_h hu e1 hx hh h0 h2
theorem bs_l {a:Int} {k:IntKind} {lo:Operand} (hu:P.underlying t = some (.slice e)) (hi:Inf P e (.int .u8 0) 1 1) (hx:Ev N ρ x (.slice A n c)) (hl:Ev N ρ lo (.int k a)) (h0:0 ≤ a) (h1:a ≤ n) (h2:n ≤ c) :
    Ex P N ρ w (.slice t x (some lo) none none) ty (.slice (cutA A c a.toNat 1) (n - a.toNat) (c - a.toNat)) w:=by
  obtain ⟨i0,e1,_,e3,_⟩:=hi
  have:=x_slice_l (ty:=ty) (w:=w) hu e1 hx hl h0 h1 h2
  rwa [e3] at this
theorem m_appAt (hu:P.underlying t = some (.slice e)) (hi:Inf P e (.int .u8 0) 1 1) (h:St H w (row e 1 v n (l.map encB)::L)) (ok:RowOk 1 v n (l.map encB)) (hx:Ev N ρ x v) {a:Addr} (hy:Ev N ρ y (.slice (some a) m c)) (hl:bs.length = m) (hat:At w a (bs.map encB)) (hm:n + m ≤ 140737488355328) :
    ∃ v' w',Ex P N ρ w (.call { callee:=.builtin .append,args:=#[x,y],argTypes:=#[t,t] }) ty v' w'∧RowOk 1 v' (n + m) ((l ++ bs).map encB)∧St H w' (row e 1 v' (n + m) ((l ++ bs).map encB)::L):=by
  rw [List.map_append]
  exact m_app hu hi rfl (by decide) h ok hx hy (by simp [hl]) hat (one_encB bs) (by omega) (by decide)
theorem splice_set {i a:Nat} (hi:i < l.length):splice (l.map encB) i [encB a] = (l.set i a).map encB:=by
  apply List.ext_getElem?
  intro j
  rw [splice_get (by simp; omega)]
  simp only [List.length_singleton,List.getElem?_map,List.getElem?_set]
  by_cases h:i = j
  · subst h; simp [hi]
  · have:¬ (i ≤ j∧j < i + 1):=by omega
    rw [if_neg this,if_neg h]
theorem Bs.first (h:Bs H A n c bs) (h4:4 ≤ n):∃ b off,A = some ⟨b,off,none⟩∧∀ {w:World} {L:List Res},St H w L → At w ⟨b,off,none⟩ [.int .u8 ((bs.getD 0 0:Nat):Int),.int .u8 ((bs.getD 1 0:Nat):Int),.int .u8 ((bs.getD 2 0:Nat):Int),.int .u8 ((bs.getD 3 0:Nat):Int)]:=by
  have hl:=h.len
  rcases h.at_ with rfl | ⟨b,off,hA,hat⟩
  · simp at hl; omega
  · refine ⟨b,off,hA,fun {w L} hs j u hu => hat hs j u ?_⟩
    match bs,hl with
    | b0::b1::b2::b3::r,_ =>
      match j,hu with
      | 0,hu => simpa [encB] using hu
      | 1,hu => simpa [encB] using hu
      | 2,hu => simpa [encB] using hu
      | 3,hu => simpa [encB] using hu
    | [],hl => simp at hl; omega
    | [_],hl => simp at hl; omega
    | [_,_],hl => simp at hl; omega
    | [_,_,_],hl => simp at hl; omega
theorem St.freezeBs (h:St H w (row e 1 v n (l.map encB)::L)) (ok:RowOk 1 v n (l.map encB)) (hs:Small l) (hn:n ≤ 140737488355328):∃ H' A c,H.le H'∧St H' w L∧v = .slice A n c∧Bs H' A n c l:=by
  rcases ok.2.2 with ⟨rfl,rfl⟩ | ⟨g,cap,hv,hc⟩
  · have h0:l = []:=List.eq_nil_of_length_eq_zero (by have:=ok.1; simpa using this)
    subst h0
    exact ⟨H,none,0,Hp.le.refl H,h.drop,rfl,Bs.nil H none⟩
  · obtain ⟨cur,_,_,_,_,hcap⟩:=h.rowIn 0 rfl hv
    obtain ⟨H',A,c,h1,h2,h3,h4,h5⟩:=h.freezeRow ok
    rw [hv] at h3
    injection h3 with e1 e2 e3
    exact ⟨H',A,c,h1,h2,by rw [hv,e1,e3],h5,by have:=ok.1; simpa using this,h4,by rw [← e3]; exact hcap,hs⟩
theorem x_bldArr {s b:Nat} {z:Value} {sb bb:Nat} {ze:Value} {parts:List (Nat × Operand)} {ps:List (Nat × Value)} {cs:List Value} (hu:P.underlying t = some (.array n e)) (hi:Inf P t z s b) (he:Inf P e ze sb bb)
    (hps:Evp N ρ parts ps) (hf:fillL (fun i => some (i * sb,sb)) z.cells.toList ps = some cs):Ex P N ρ w (.build t parts.toArray) ty (.agg cs.toArray) w:=fun _ _ _ _ => by
  obtain ⟨i0,e1,e2,_,_⟩:=hi
  obtain ⟨i1,f1,_,f3,_⟩:=he
  have h1:=hps.arr
  have hfl:=fill_list _ _ _ _ hf
  rw [Array.toArray_toList] at hfl
  have hr:(Instr.build t ps.toArray).run P w = .ok (.agg cs.toArray) w:=by
    simp [Instr.build,zeroValue,typeInfo,e1,e2,run_underlying hu,sizeOf,f1,f3,hfl]
  have h2:(parts.toArray.map fun (i,x) => (i,(en N ρ).eval x)) = ps.toArray:=h1
  simp only [execOp,h2]
  simp [hr]
theorem oneA {cs:List Value} (h:(cs.all (·.oneCell')) = true):∀ u ∈ (Value.agg cs.toArray).cells.toList,u.oneCell' = true:=fun u hu => List.all_eq_true.1 h u (by simpa [Value.cells] using hu)
theorem RowOk.setB {i a:Nat} (ok:RowOk 1 v n (l.map encB)):RowOk 1 v n ((l.set i a).map encB):=⟨by simpa using ok.1,ok.2⟩
end
end Go.FM

set_option linter.unusedVariables false
set_option linter.unusedSimpArgs false
namespace Go.FM
open Go Go.ChangeShapes Go.WideShapes Go.ChangeAt Go.RowKit
section
variable {H:Type} {enc:TypeId × Value → H} {P:Program} {W:World} {t e:TypeId} {v:Value} {d:DataW H} {ps:List MemPlace} {r:Reach} {b0:Nat} {ts:List TypeId} {ds:List (DataW H)} {j:Nat}
end
end Go.FM

set_option linter.unusedVariables false
set_option linter.unusedSimpArgs false
namespace Go.FM
open Go
section
variable {P:Program} {ops:Array Oper} {Q:Exit → Act → World → Prop} {md:Region.Mode} {S S':World → Prop} {z:Option Nat}
def lastB (md:Region.Mode) (ops:Array Oper) (k:Nat):Bool:=(List.range ops.size).all fun j => Nat.beq j k || ((ops[k]?).map fun o => o.after.any fun e => Region.binds md e && Nat.beq e.on j).getD false
theorem lastB_spec {k j:Nat} (h:lastB md ops k = true) (hj:j < ops.size) (hjk:j ≠ k) {listed:Array Bool} (hr:k ∈ Region.ready md ops listed):listed.getD j false = true:=by
  obtain ⟨_,o,ho,hall⟩:=mem_ready.1 hr
  have:=List.all_eq_true.1 h j (List.mem_range.2 hj)
  simp only [Bool.or_eq_true,ho,Option.map_some,Option.getD_some] at this
  rcases this with h1 | h1
  · exact absurd (Nat.eq_of_beq_eq_true h1) hjk
  · obtain ⟨e,he,hb⟩:=Array.any_eq_true'.1 h1
    simp only [Bool.and_eq_true] at hb
    have:=hall e he hb.1
    rwa [Nat.eq_of_beq_eq_true hb.2] at this
def wpG (P:Program) (md:Region.Mode) (ops:Array Oper) (z:Option Nat) (Q:Exit → Act → World → Prop):Nat → Array Bool → (World → Prop) → Act → World → Prop
  | 0,listed,_,a,w => Region.ready md ops listed = []∧Q .normal a w
  | fuel + 1,listed,S,a,w =>
    (Region.ready md ops listed = [] → Q .normal a w) ∧
    ∀ i ∈ Region.ready md ops listed,wpOp P ops Q i (fun a' w' => ∃ S':World → Prop,(z ≠ some i → (∀ u,S' u → S u)∧S' w')∧wpG P md ops z Q fuel (listed.setIfInBounds i true) S' a' w') a w
theorem wpAny_of_g:∀ (fuel:Nat) (listed:Array Bool) (S:World → Prop) (a:Act) (w:World),wpG P md ops z Q fuel listed S a w → wpAny P md ops Q fuel listed a w
  | 0,_,_,_,_,h => h
  | fuel + 1,_,_,_,_,h => ⟨h.1,fun i hi => wpOp_mono (fun a' w' ⟨_,_,h'⟩ => wpAny_of_g fuel _ _ a' w' h') (h.2 i hi)⟩
theorem yieldsIf_mono {o:Oper} {v:Value} {a:Act} (h:YieldsIf P ops S o v a) (hs:∀ u,S' u → S u):YieldsIf P ops S' o v a :=
  h.imp (fun ⟨hw,hv⟩ => ⟨hw,fun w hw' => hv w (hs w hw')⟩) id
theorem wpG_first (hz:∀ k,z = some k → lastB md ops k = true) {i:Nat} {oi:Oper} {v:Value} (hi:ops[i]? = some oi) (hsel:∀ (j:Nat) (o:Oper) cs b,ops[j]? = some o → o.op ≠ .select cs b)
    (hQ:∀ c a w,Q (.panic c) (a.put oi.dst v) w → Q (.panic c) a w) :
    ∀ (fuel:Nat) (listed:Array Bool) (S:World → Prop) (a:Act) (w:World),
      (∀ j oj,ops[j]? = some oj → j ≠ i → listed.getD j true = false → (∀ e ∈ oj.after,Region.binds md e = true → e.on ≠ i) → oi.apart ops oj = true) →
      i ∈ Region.ready md ops listed → YieldsIf P ops S oi v a → S w →
      wpG P md ops z Q fuel (listed.setIfInBounds i true) S (a.put oi.dst v) w → wpG P md ops z Q (fuel + 1) listed S a w:=by
  intro fuel
  induction fuel with
  | zero =>
    intro listed S a w _ hr hy hS H
    refine ⟨fun h => (by rw [h] at hr; cases hr),fun j hj => ?_⟩
    by_cases hji:j = i
    · subst hji; exact hy.wpOp hi hS ⟨S,fun _ => ⟨fun _ h => h,hS⟩,H⟩
    · have:=ready_mono hj hji
      rw [H.1] at this
      cases this
  | succ fuel ih =>
    intro listed S a w hfree hr hy hS H
    refine ⟨fun h => (by rw [h] at hr; cases hr),fun j hj => ?_⟩
    by_cases hji:j = i
    · subst hji; exact hy.wpOp hi hS ⟨S,fun _ => ⟨fun _ h => h,hS⟩,H⟩
    · have h1:=H.2 j (ready_mono hj hji)
      obtain ⟨hjun,oj,hoj,hall⟩:=mem_ready.1 hj
      have hnot:∀ e ∈ oj.after,Region.binds md e = true → e.on ≠ i:=fun e he hb heq => by
        have h1:=hall e he hb
        have h0:=(mem_ready.1 hr).1
        rw [heq] at h1
        rcases Nat.lt_or_ge i listed.size with h' | h'
        · simp [h'] at h0 h1; rw [h0] at h1; cases h1
        · simp [Array.getElem?_eq_none h'] at h1
      have h2:=wpOp_putIf hoj (hfree j oj hoj hji hjun hnot) (fun cs b => hsel i oi cs b hi) (fun cs b => hsel j oj cs b hoj) hQ hy h1
      have hfree':∀ k ok,ops[k]? = some ok → k ≠ i → (listed.setIfInBounds j true).getD k true = false →
          (∀ e ∈ ok.after,Region.binds md e = true → e.on ≠ i) → oi.apart ops ok = true:=fun k ok hk hki hun hno => by
        refine hfree k ok hk hki ?_ hno
        by_cases hjk:j = k
        · subst hjk; exact hjun
        · rw [getD_set_ne true hjk] at hun; exact hun
      refine wpOp_mono (fun a' w' h3 => ?_) h2
      obtain ⟨hy',S',hs,H'⟩:=h3
      have hzj:z ≠ some j:=fun e => by
        have hil:=(mem_ready.1 hr).1
        have hin:i < ops.size:=(Array.getElem?_eq_some_iff.1 hi).1
        have h5:=lastB_spec (hz j e) hin (Ne.symm hji) hj
        rcases Nat.lt_or_ge i listed.size with h' | h'
        · simp [h'] at hil h5; rw [hil] at h5; cases h5
        · simp [Array.getElem?_eq_none h'] at h5
      obtain ⟨hs1,hs2⟩:=hs hzj
      refine ⟨S',hs,ih (listed.setIfInBounds j true) S' a' w' hfree' (ready_mono hr (Ne.symm hji)) (yieldsIf_mono hy' hs1) hs2 ?_⟩
      rw [Array.setIfInBounds_comm _ _ hji]
      exact H'
def Qn (K:Act → World → Prop):Exit → Act → World → Prop:=fun e a w => e = .normal∧K a w
theorem not_letsOut {K:Act → World → Prop}:¬ LetsOut (Qn K):=fun ⟨_,_,h⟩ => by cases h.1
theorem wpOp_of_one {k:Nat} {o:Oper} {K K':Act → World → Prop} {a:Act} {w:World} (ho:ops[k]? = some o) (h:wpList P ops (Qn K) [o] a w):wpOp P ops (Qn K') k K a w:=by
  unfold wpOp
  simp only [ho]
  simp only [wpList] at h
  split
  · rename_i hw
    rw [if_pos hw] at h
    left
    rcases h with h | ⟨_,h⟩
    · unfold Oper.wp at h ⊢
      generalize (execOp a.eval o).run P w = r at h ⊢
      cases r with
      | ok n w' =>
        cases n <;> simp only [Oper.upon] at h ⊢
        case value v => exact h.2
        case skip => exact h.2
        case defer d => exact h.2
        case enter f args =>
          refine Calls.mono h fun e w'' he => ?_
          cases e with
          | returned v => exact he.2
          | panicked c => exact absurd he.1 (by intro e; cases e)
          | outgrown => exact absurd he not_letsOut
        case row row args => exact Rows.mono h fun v w'' he => he.2
      | halt x w' =>
        cases x <;> simp only [Oper.upon] at h ⊢
        case panic v => exact absurd h.1 (by intro e; cases e)
    · exact absurd h not_letsOut
  · rename_i hw
    rw [if_neg hw] at h
    exact h.2
def wpS (P:Program) (ops:Array Oper) (z:Option Nat) (K:Act → World → Prop):List (Nat × Bool) → (World → Prop) → Act → World → Prop
  | [],_,a,w => K a w
  | (k,true)::r,S,a,w => ∃ o v,ops[k]? = some o∧YieldsIf P ops S o v a∧wpS P ops z K r S (a.put o.dst v) w
  | (k,false)::r,S,a,w => ∃ o,ops[k]? = some o∧wpList P ops (Qn fun a' w' => ∃ S':World → Prop,(z ≠ some k → (∀ u,S' u → S u)∧S' w')∧wpS P ops z K r S' a' w') [o] a w
def planB (md:Region.Mode) (ops:Array Oper) (z:Option Nat):List (Nat × Bool) → Array Bool → Bool
  | [],listed => (Region.ready md ops listed).isEmpty
  | (k,true)::r,listed => (Region.ready md ops listed).contains k && Region.free md ops listed k && planB md ops z r (listed.setIfInBounds k true)
  | (k,false)::r,listed => decide (Region.ready md ops listed = [k]) && (z != some k || r.isEmpty) && planB md ops z r (listed.setIfInBounds k true)
theorem wpS_sound (hz:∀ k,z = some k → lastB md ops k = true ) (hsel:Region.noSelect ops = true) {K:Act → World → Prop}:∀ (pl:List (Nat × Bool)) (listed:Array Bool) (S:World → Prop) (a:Act) (w:World),
    planB md ops z pl listed = true → S w → wpS P ops z K pl S a w → wpG P md ops z (Qn K) pl.length listed S a w
  | [],listed,S,a,w,hB,hS,h => ⟨by simpa [planB] using hB,rfl,h⟩
  | (k,true)::r,listed,S,a,w,hB,hS,h => by
    simp only [planB,Bool.and_eq_true] at hB
    obtain ⟨o,v,ho,hy,h⟩:=h
    exact wpG_first hz ho (Region.noSelect_spec hsel) (fun c a w h => absurd h.1 (by intro e; cases e)) r.length listed S a w (Region.free_spec ho hB.1.2) (by simpa using hB.1.1) hy hS
      (wpS_sound hz hsel r _ S _ w hB.2 hS h)
  | (k,false)::r,listed,S,a,w,hB,hS,h => by
    simp only [planB,Bool.and_eq_true,decide_eq_true_eq] at hB
    obtain ⟨o,ho,h⟩:=h
    refine ⟨fun h0 => (by rw [hB.1.1] at h0; cases h0),fun i hi => ?_⟩
    rw [hB.1.1] at hi
    obtain rfl:i = k:=by simpa using hi
    have h1:=wpOp_of_one (K':=K) ho h
    refine wpOp_mono (fun a' w' ⟨S',hs,h'⟩ => ⟨S',hs,?_⟩) h1
    by_cases hzi:z = some i
    · have hr:r = []:=by
        have:=hB.1.2
        rw [hzi] at this
        simpa using this
      subst hr
      exact ⟨by simpa [planB] using hB.2,rfl,h'⟩
    · exact wpS_sound hz hsel r _ S' a' w' hB.2 (hs hzi).2 h'
end
section
variable {P:Program} {Q:Exit → Act → World → Prop} {N:Nat} {ρ:Nat → Value} {w:World} {S:World → Prop}
theorem s_region {id:Nat} {l:List Oper} {H:Hp} {L L':List Res} (z:Option Nat) (pl:List (Nat × Bool)) (hm:P.follows .mixedOrders = true) (hs:St H w L) (hk:∀ u,St H u L → St H u L')
    (hB:(Region.noSelect l.toArray && Nat.beq pl.length l.length && planB .any l.toArray z pl (Array.replicate l.length false) && (z.map (lastB .any l.toArray)).getD true) = true)
    (h:∀ w,St H w L → wpS P l.toArray z (Q .normal) pl (fun u => St H u L') (en N ρ) w):(Code.region id l.toArray true).wp P Q (en N ρ) w:=by
  simp only [Bool.and_eq_true] at hB
  obtain ⟨⟨⟨hB1,hB2⟩,hB3⟩,hB4⟩:=hB
  have hlen:pl.length = l.length:=Nat.eq_of_beq_eq_true hB2
  refine Code.wp_mono (Q:=Qn (Q .normal)) (fun e a w hq => by rw [hq.1]; exact hq.2) (wp_region_any hm (wpAny_of_g (z:=z) _ _ (fun u => St H u L') _ _ ?_))
  have:=wpS_sound (md:=.any) (z:=z) (fun k hk => by rw [hk] at hB4; simpa using hB4) hB1 pl _ _ (en N ρ) _ hB3 (hk _ (hs.drawn (w.drawn + 1))) (h _ (hs.drawn (w.drawn + 1)))
  rw [hlen] at this
  simpa using this
variable {ops:Array Oper} {z:Option Nat} {K:Act → World → Prop} {r:List (Nat × Bool)} {k d ty:Nat} {pos:String} {aft:Array Edge} {op:Op} {v:Value}
theorem s_nil (h:K (en N ρ) w):wpS P ops z K [] S (en N ρ) w:=h
theorem s_st (ho:ops[k]? = some ⟨some d,op,ty,pos,aft,none⟩) (hr:∀ w,S w → Ex P N ρ w op ty v w) (h:wpS P ops z K r S (en N (up ρ d v)) w):wpS P ops z K ((k,true)::r) S (en N ρ) w:=by
  refine ⟨_,v,ho,.inl ⟨by simp [Region.wanted],fun u hu => hr u hu _ _ _ _⟩,?_⟩
  rw [en_put]; exact h
theorem s_eff {o:Oper} (ho:ops[k]? = some o) (h:wpList P ops (Qn fun a' w' => ∃ S':World → Prop,(z ≠ some k → (∀ u,S' u → S u)∧S' w')∧wpS P ops z K r S' a' w') [o] (en N ρ) w):wpS P ops z K ((k,false)::r) S (en N ρ) w:=⟨o,ho,h⟩
theorem s_on {S':World → Prop} (hs:∀ u,S' u → S u) (hw:S' w) (h:wpS P ops z K r S' (en N ρ) w) :
    wpList P ops (Qn fun a' w' => ∃ S':World → Prop,(z ≠ some k → (∀ u,S' u → S u)∧S' w')∧wpS P ops z K r S' a' w') [] (en N ρ) w:=⟨rfl,S',fun _ => ⟨hs,hw⟩,h⟩
theorem s_end (h:K (en N ρ) w):wpList P ops (Qn fun a' w' => ∃ S':World → Prop,(some k ≠ some k → (∀ u,S' u → S u)∧S' w')∧wpS P ops (some k) K [] S' a' w') [] (en N ρ) w:=⟨rfl,S,fun h => absurd rfl h,h⟩
end
end Go.FM

set_option linter.unusedVariables false
set_option linter.unusedSimpArgs false
namespace Go.FM
open Go
section
variable {P:Program} {N:Nat} {ρ:Nat → Value} {w:World} {t ty e:Nat} {x y:Operand} {p:Option Addr} {yt:TypeId} {r:Bool}
theorem run_eqP (hu:P.underlying t = some (.pointer e)):(Op.equal t (.pointer p) (.pointer none)).run P w = .ok p.isNone w:=by
  have h:P.pointee t = e:=by simp [Program.pointee,hu]
  exact run_equal_pointer_nil w t p (by rw [h]; exact hu)
theorem x_eqlP (hu:P.underlying t = some (.pointer e)) (hx:Ev N ρ x (.pointer p)) (hy:Ev N ρ y (.pointer none)) (hr:p.isNone = r):Ex P N ρ w (.binOp .eql t x y yt) ty (.bool r) w:=fun _ _ _ _ => by
  have h1:(en N ρ).eval x = .pointer p:=hx
  have h2:(en N ρ).eval y = .pointer none:=hy
  have hg:(eqGuard .eql t x y (.pointer p) (.pointer none)).run P w = .ok () w:=by cases p <;> rfl
  have hb:(binOp .eql t (.pointer p) (.pointer none)).run P w = .ok (.bool r) w:=by
    have:=run_eqP (p:=p) (w:=w) hu
    simp [binOp,this,hr]
  simp [execOp,h1,h2,hg,hb]
theorem x_neqP (hu:P.underlying t = some (.pointer e)) (hx:Ev N ρ x (.pointer p)) (hy:Ev N ρ y (.pointer none)) (hr:(!p.isNone) = r):Ex P N ρ w (.binOp .neq t x y yt) ty (.bool r) w:=fun _ _ _ _ => by
  have h1:(en N ρ).eval x = .pointer p:=hx
  have h2:(en N ρ).eval y = .pointer none:=hy
  have hg:(eqGuard .neq t x y (.pointer p) (.pointer none)).run P w = .ok () w:=by cases p <;> rfl
  have hb:(binOp .neq t (.pointer p) (.pointer none)).run P w = .ok (.bool r) w:=by
    have:=run_eqP (p:=p) (w:=w) hu
    simp [binOp,this,hr]
  simp [execOp,h1,h2,hg,hb]
theorem bs_hm {a:Int} {k k':IntKind} {hi_ mx:Operand} {n c:Nat} {A:Option Addr} (hu:P.underlying t = some (.slice e)) (hi:Inf P e (.int .u8 0) 1 1) (hx:Ev N ρ x (.slice A n c)) (hh:Ev N ρ hi_ (.int k a)) (hm:Ev N ρ mx (.int k' a)) (h0:0 ≤ a) (h2:a ≤ c) :
    Ex P N ρ w (.slice t x none (some hi_) (some mx)) ty (.slice A a.toNat a.toNat) w:=fun _ _ _ _ => by
  have e1:(en N ρ).eval x = .slice A n c:=hx
  have e2:(en N ρ).eval hi_ = .int k a:=hh
  have e3:(en N ρ).eval mx = .int k' a:=hm
  obtain ⟨i0,f1,_⟩:=hi
  have he:P.elem t = e:=by simp [Program.elem,hu]
  have ht:P.underlying t = some (.slice (P.elem t)):=by rw [he]; exact hu
  have h:=run_slice_hm (P:=P) w t A n c ht k k' a a h0 (Int.le_refl _) h2
  have hr:(Instr.sliceAt t (.slice A n c) none (some (.int k a)) (some (.int k' a))).run P w = .ok (.slice A a.toNat a.toNat) w:=by
    rw [run_sliceAt_slice (P:=P) w t _ _ _ _ ht,h,he]
    by_cases h1:a.toNat = 0
    · cases A <;> simp [sizeOf,typeInfo,f1,sliced,h1,Addr.add]
    · cases A <;> simp [sizeOf,typeInfo,f1,sliced,h1,Addr.add]
  simp [execOp,e1,e2,e3,hr]
theorem Bs.takeC {H:Hp} {A:Option Addr} {n c:Nat} {bs:List Nat} (h:Bs H A n c bs) {k:Nat} (hk:k ≤ n):Bs H A k k (bs.take k) :=
  let q:=h.take hk
  ⟨q.rd,q.len,Nat.le_refl _,Nat.le_trans q.le q.max,q.lt⟩
end
end Go.FM

set_option linter.unusedVariables false
namespace Go.FM
def cbit (c:Nat):Nat:=(c / 2) ^^^ (if c % 2 = 1 then 3988292384 else 0)
def cbits:Nat → Nat → Nat
  | 0,c => c
  | n + 1,c => cbit (cbits n c)
def cbyte (c b:Nat):Nat:=cbits 8 (c ^^^ b)
def crcR (c:Nat) (l:List Nat):Nat:=l.foldl cbyte c
def crc (l:List Nat):Nat:=4294967295 - crcR 4294967295 l
theorem xor_mod2 (a b:Nat):(a ^^^ b) % 2 = if a % 2 = b % 2 then 0 else 1:=by
  have h:=Nat.testBit_xor (x:=a) (y:=b) (i:=0)
  simp only [Nat.testBit_zero] at h
  rcases Nat.mod_two_eq_zero_or_one a with h1 | h1 <;> rcases Nat.mod_two_eq_zero_or_one b with h2 | h2 <;> rcases Nat.mod_two_eq_zero_or_one (a ^^^ b) with h3 | h3 <;> simp [h1,h2,h3] at h ⊢
theorem cbit_xor (a b:Nat):cbit (a ^^^ b) = cbit a ^^^ cbit b:=by
  unfold cbit
  rw [xor_mod2,Nat.xor_div_two]
  rcases Nat.mod_two_eq_zero_or_one a with h | h <;> rcases Nat.mod_two_eq_zero_or_one b with k | k <;> simp [h,k]
  · ac_rfl
  · ac_rfl
  · have:∀ x y z:Nat,x ^^^ y = x ^^^ z ^^^ (y ^^^ z):=fun x y z => by
      apply Nat.eq_of_testBit_eq; intro i; simp; cases x.testBit i <;> cases y.testBit i <;> cases z.testBit i <;> rfl
    exact this _ _ _
theorem cbits_xor (n a b:Nat):cbits n (a ^^^ b) = cbits n a ^^^ cbits n b:=by
  induction n with
  | zero => rfl
  | succ n ih => rw [cbits,ih,cbit_xor]; rfl
theorem cbits_add (m n c:Nat):cbits (m + n) c = cbits m (cbits n c):=by
  induction m with
  | zero => simp [cbits]
  | succ m ih => rw [Nat.succ_add,cbits,cbits,ih]
theorem cbits_high (n b:Nat):cbits n (b * 2 ^ n) = b:=by
  induction n generalizing b with
  | zero => simp [cbits]
  | succ n ih =>
    rw [show n + 1 = 1 + n by omega,cbits_add,show b * 2 ^ (1 + n) = (b * 2) * 2 ^ n by rw [Nat.pow_add]; simp [Nat.mul_assoc],ih]
    simp [cbits,cbit]
def feed (c:Nat) (f:Nat → Bool):Nat → Nat
  | 0 => c
  | n + 1 => cbit (feed c f n ^^^ (f n).toNat)
theorem feed_bits (c b n:Nat):feed c (fun i => b.testBit i) n = cbits n (c ^^^ (b % 2 ^ n)):=by
  induction n with
  | zero => simp [feed,cbits,Nat.mod_one]
  | succ n ih =>
    rw [feed,ih,cbits]
    congr 1
    have h1:b % 2 ^ (n + 1) = (b % 2 ^ n) ^^^ ((b.testBit n).toNat * 2 ^ n):=by
      apply Nat.eq_of_testBit_eq
      intro i
      rw [Nat.testBit_xor,Nat.testBit_mod_two_pow,Nat.testBit_mod_two_pow,Nat.testBit_mul_two_pow]
      rcases Nat.lt_trichotomy i n with h | h | h
      · simp [h,Nat.lt_succ_of_lt h,Nat.not_le.2 h]
      · subst h
        cases b.testBit i <;> simp
      · have:¬ i < n + 1:=by omega
        have h2:¬ i < n:=by omega
        have h3:n ≤ i:=by omega
        have h4:i - n ≠ 0:=by omega
        cases hb:b.testBit n <;> simp [this,h2,h3]
        rw [← Bool.not_eq_true,Nat.testBit_one_eq_true_iff_self_eq_zero]
        exact h4
    rw [h1,← Nat.xor_assoc,cbits_xor n (c ^^^ b % 2 ^ n),cbits_high]
theorem cbyte_feed (c:Nat) {b:Nat} (hb:b < 256):cbyte c b = feed c (fun i => b.testBit i) 8:=by
  rw [feed_bits,Nat.mod_eq_of_lt (by omega)]; rfl
theorem crcR_append (c:Nat) (l m:List Nat):crcR c (l ++ m) = crcR (crcR c l) m:=by simp [crcR]
theorem crc_lt (l:List Nat):crc l < 4294967296:=by unfold crc; omega
def four (s:Nat):List Nat:=[s % 256,s / 2 ^ 8 % 256,s / 2 ^ 16 % 256,s / 2 ^ 24 % 256]
def seal_ (l:List Nat):List Nat:=l ++ four (crc l)
theorem four_small (s:Nat):Small (four s):=by
  intro b hb
  simp [four] at hb
  rcases hb with h | h | h | h <;> omega
theorem seal_small {l:List Nat} (h:Small l):Small (seal_ l):=h.append (four_small _)
theorem seal_length (l:List Nat):(seal_ l).length = l.length + 4:=by simp [seal_,four]
end Go.FM
namespace Go.FM
theorem and_one (c:Nat):c &&& 1 = c % 2:=Nat.and_one_is_mod c
theorem cbit_code (c:Nat):((c / 2 ^ 1) ^^^ (3988292384 &&& ((0 - (((c &&& 1):Nat):Int)) % 4294967296).toNat)) = cbit c:=by
  unfold cbit
  rw [and_one]
  rcases Nat.mod_two_eq_zero_or_one c with h | h
  · simp [h]
  · rw [h,if_pos rfl]
    have:(((0:Int) - ((1:Nat):Int)) % 4294967296).toNat = 4294967295:=by decide
    rw [this]
    have:3988292384 &&& 4294967295 = 3988292384:=by decide
    rw [this]
theorem low_bit (b j:Nat):(b / 2 ^ j) &&& 1 = (b.testBit j).toNat:=by
  rw [and_one,Nat.testBit_eq_decide_div_mod_eq]
  rcases Nat.mod_two_eq_zero_or_one (b / 2 ^ j) with h | h <;> simp [h]
theorem ref_step (d b j:Nat):cbit (d ^^^ (b.testBit j).toNat) = if (d &&& 1) ^^^ ((b / 2 ^ j) &&& 1) = 1 then (d / 2 ^ 1) ^^^ 3988292384 else d / 2 ^ 1:=by
  rw [low_bit,and_one]
  unfold cbit
  rw [xor_mod2,Nat.xor_div_two]
  have e:(b.testBit j).toNat / 2 = 0:=by cases b.testBit j <;> rfl
  have e2:(b.testBit j).toNat % 2 = (b.testBit j).toNat:=by cases b.testBit j <;> rfl
  rw [e,Nat.xor_zero,e2]
  rcases Nat.mod_two_eq_zero_or_one d with h | h <;> cases b.testBit j <;> simp [h]
theorem ref_yes {d b j:Nat} (h:((((d &&& 1) ^^^ ((b / 2 ^ j) &&& 1)):Nat):Int) = 1):(d / 2 ^ 1) ^^^ 3988292384 = cbit (d ^^^ (b.testBit j).toNat):=by
  rw [ref_step,if_pos (by omega)]
theorem ref_no {d b j:Nat} (h:¬ ((((d &&& 1) ^^^ ((b / 2 ^ j) &&& 1)):Nat):Int) = 1):d / 2 ^ 1 = cbit (d ^^^ (b.testBit j).toNat):=by
  rw [ref_step,if_neg (by omega)]
theorem crcR_take {l:List Nat} {i:Nat} (h:i < l.length) (c:Nat):crcR c (l.take (i + 1)) = cbyte (crcR c (l.take i)) (l.getD i 0):=by
  rw [List.take_add_one,crcR_append,List.getD_eq_getElem?_getD,List.getElem?_eq_getElem h]
  rfl
def openL (l:List Nat):List Nat × Int:=if l.length < 4 then ([],3) else if l = seal_ (l.take (l.length - 4)) then (l.take (l.length - 4),0) else ([],5)
theorem open_seal (l:List Nat):openL (seal_ l) = (l,0):=by
  have h:(seal_ l).take ((seal_ l).length - 4) = l:=by rw [seal_length,Nat.add_sub_cancel]; simp [seal_]
  unfold openL
  rw [h,if_neg (by rw [seal_length]; omega),if_pos rfl]
theorem openL_short {l:List Nat} (h:l.length < 4):openL l = ([],3):=by unfold openL; rw [if_pos h]
theorem openL_good {l:List Nat} (h:¬ l.length < 4) (e:l = seal_ (l.take (l.length - 4))):openL l = (l.take (l.length - 4),0):=by unfold openL; rw [if_neg h,if_pos e]
theorem openL_bad {l:List Nat} (h:¬ l.length < 4) (e:¬ l = seal_ (l.take (l.length - 4))):openL l = ([],5):=by unfold openL; rw [if_neg h,if_neg e]
theorem openL_small {l:List Nat} (h:Small l):Small (openL l).1:=by
  unfold openL
  split
  · exact Small.nil
  · split
    · exact h.take _
    · exact Small.nil
theorem four_eq {l:List Nat} (h:4 ≤ l.length):((((l.drop (l.length - 4)).getD 0 0:Nat):Int) == (((crc (l.take (l.length - 4)) % 256):Nat):Int) && ((((l.drop (l.length - 4)).getD 1 0:Nat):Int) == (((crc (l.take (l.length - 4)) / 2 ^ 8 % 256):Nat):Int) &&
    ((((l.drop (l.length - 4)).getD 2 0:Nat):Int) == (((crc (l.take (l.length - 4)) / 2 ^ 16 % 256):Nat):Int) && (((l.drop (l.length - 4)).getD 3 0:Nat):Int) == (((crc (l.take (l.length - 4)) / 2 ^ 24 % 256):Nat):Int)))) = decide (l = seal_ (l.take (l.length - 4))):=by
  have hl:(l.drop (l.length - 4)).length = 4:=by rw [List.length_drop]; omega
  have hs:l = l.take (l.length - 4) ++ l.drop (l.length - 4):=(List.take_append_drop _ l).symm
  have key:(l = seal_ (l.take (l.length - 4))) ↔ l.drop (l.length - 4) = four (crc (l.take (l.length - 4))):=by
    unfold seal_
    refine ⟨fun h => List.append_cancel_left (hs.symm.trans h),fun h => by conv => lhs; rw [hs,h]⟩
  rw [show decide (l = seal_ (l.take (l.length - 4))) = decide (l.drop (l.length - 4) = four (crc (l.take (l.length - 4)))) from by simp only [key]]
  generalize l.drop (l.length - 4) = m at hl
  generalize crc (l.take (l.length - 4)) = s
  match m,hl with
  | [a,b,c,d],_ =>
    simp only [four,List.getD_cons_zero,List.getD_cons_succ]
    rw [Bool.eq_iff_iff]
    simp only [Bool.and_eq_true,beq_iff_eq,decide_eq_true_eq,List.cons.injEq,and_true]
    omega
def uenc (n:Nat):List Nat:=if n < 128 then [n] else (n % 128 + 128)::uenc (n / 128)
termination_by n
theorem uenc_small (n:Nat):Small (uenc n):=by
  induction n using Nat.strongRecOn with
  | _ n ih =>
    rw [uenc]
    split
    · exact Small.one (by omega)
    · exact Small.cons (by omega) (ih _ (by omega))
theorem uenc_big {n:Nat} (h:¬ n < 128):uenc n = (n % 128 + 128)::uenc (n / 128):=by conv => lhs; rw [uenc,if_neg h]
theorem uenc_one {n:Nat} (h:n < 128):uenc n = [n]:=by rw [uenc,if_pos h]
theorem uenc_len (n k:Nat) (h:n < 128 ^ (k + 1)):(uenc n).length ≤ k + 1:=by
  induction k generalizing n with
  | zero => rw [uenc_one (by simpa using h)]; simp
  | succ k ih =>
    by_cases h1:n < 128
    · rw [uenc_one h1]; simp
    · rw [uenc_big h1,List.length_cons]
      have:=ih (n / 128) (by rw [Nat.div_lt_iff_lt_mul (by decide)]; rw [← Nat.pow_succ]; exact h)
      omega
theorem uenc_len10 {n:Nat} (h:n < 18446744073709551616):(uenc n).length ≤ 10:=uenc_len n 9 (Nat.lt_of_lt_of_le h (by decide))
theorem or128 (n:Nat):(n % 256) ||| 128 = n % 128 + 128:=by
  have e:n % 256 = n % 128 + 128 * (n / 128 % 2):=by omega
  have h1:∀ a,a < 128 → a ||| 128 = a + 128:=by decide +kernel
  rcases Nat.mod_two_eq_zero_or_one (n / 128) with h | h
  · rw [e,h,Nat.mul_zero,Nat.add_zero]; exact h1 _ (by omega)
  · rw [e,h]
    have h2:∀ a,a < 128 → (a + 128 * 1) ||| 128 = a + 128:=by decide +kernel
    exact h2 _ (by omega)
end Go.FM
namespace Go.FM
open Go
theorem four_get (s:Nat) {j:Nat} (h:j < 4):(four s).take (j + 1) = (four s).take j ++ [s / 2 ^ (8 * j) % 256]:=by
  match j,h with
  | 0,_ => simp [four]
  | 1,_ => simp [four]
  | 2,_ => simp [four]
  | 3,_ => simp [four]
theorem four_next (bs:List Nat) {n j:Nat} {v:Value} (h:j < 4) (ok:RowOk 1 v (n + j + 1) ((bs ++ (four (crc bs)).take j ++ [crc bs / 2 ^ (8 * j) % 256]).map encB)):RowOk 1 v (n + (j + 1)) ((bs ++ (four (crc bs)).take (j + 1)).map encB):=by
  rw [four_get _ h,← List.append_assoc]; exact ok
theorem four_nextS (bs:List Nat) {H:Hp} {w:World} {L:List Res} {e n j:Nat} {v:Value} (h:j < 4) (hs:St H w (row e 1 v (n + j + 1) ((bs ++ (four (crc bs)).take j ++ [crc bs / 2 ^ (8 * j) % 256]).map encB)::L)):St H w (row e 1 v (n + (j + 1)) ((bs ++ (four (crc bs)).take (j + 1)).map encB)::L):=by
  rw [four_get _ h,← List.append_assoc]; exact hs
end Go.FM
namespace Go.FM
end Go.FM
