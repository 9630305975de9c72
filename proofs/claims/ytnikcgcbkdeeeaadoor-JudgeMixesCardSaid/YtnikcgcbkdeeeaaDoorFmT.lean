/- Structs of the program as kinds, printed by kinds.py. -/
import Derived.Test.YtnikcgcbkdeeeaaDoorFmK
set_option linter.unusedVariables false
set_option linter.unusedSimpArgs false
namespace Go.FM
open Go
structure GViewID where
  N : Nat
  P : Int
def kViewID : Kd GViewID where
  sz := 2
  pos := by decide
  rep H x cs := cs = [.int .u64 (x.N : Int), .int .i64 x.P] ∧ x.N < 18446744073709551616 ∧ IB (x.P)
  len h := by obtain ⟨rfl, _⟩ := h; rfl
  one h := by obtain ⟨rfl, _⟩ := h; simp [Value.oneCell']
  mono hl h := by obtain ⟨rfl, h0, h1⟩ := h; exact ⟨rfl, h0, h1⟩
  bts := 16
  bts0 := by decide
instance : DecidableEq GViewID := fun a b => decidable_of_iff (a.N = b.N ∧ a.P = b.P) ⟨fun h => by cases a; cases b; simp_all, fun h => by rw [h]; simp⟩
instance : Inhabited GViewID := ⟨(GViewID.mk 0 0)⟩
theorem GViewID.beq_dec (a b : GViewID) : ((((a.N : Nat) : Int) == ((b.N : Nat) : Int)) && ((a.P == b.P) && true)) = decide (a = b) := by
  rw [Bool.eq_iff_iff]
  obtain ⟨aN, aP⟩ := a
  obtain ⟨bN, bP⟩ := b
  simp only [Bool.and_eq_true, beq_iff_eq, decide_eq_true_eq, Int.ofNat_inj, Int.natCast_inj, and_true, and_assoc, GViewID.mk.injEq]
structure GView where
  ID : GViewID
  Set : Nat
def kView : Kd GView where
  sz := 3
  pos := by decide
  rep H x cs := cs = [.int .u64 (x.ID.N : Int), .int .i64 x.ID.P, .int .u16 (x.Set : Int)] ∧ x.ID.N < 18446744073709551616 ∧ IB (x.ID.P) ∧ x.Set < 65536
  len h := by obtain ⟨rfl, _⟩ := h; rfl
  one h := by obtain ⟨rfl, _⟩ := h; simp [Value.oneCell']
  mono hl h := by obtain ⟨rfl, h0, h1, h2⟩ := h; exact ⟨rfl, h0, h1, h2⟩
  bts := 24
  bts0 := by decide
instance : DecidableEq GView := fun a b => decidable_of_iff (a.ID = b.ID ∧ a.Set = b.Set) ⟨fun h => by cases a; cases b; simp_all, fun h => by rw [h]; simp⟩
instance : Inhabited GView := ⟨(GView.mk (GViewID.mk 0 0) 0)⟩
theorem GView.beq_dec (a b : GView) : (((((a.ID.N : Nat) : Int) == ((b.ID.N : Nat) : Int)) && ((a.ID.P == b.ID.P) && true)) && ((((a.Set : Nat) : Int) == ((b.Set : Nat) : Int)) && true)) = decide (a = b) := by
  rw [Bool.eq_iff_iff]
  obtain ⟨⟨aIDN, aIDP⟩, aSet⟩ := a
  obtain ⟨⟨bIDN, bIDP⟩, bSet⟩ := b
  simp only [Bool.and_eq_true, beq_iff_eq, decide_eq_true_eq, Int.ofNat_inj, Int.natCast_inj, and_true, and_assoc, GView.mk.injEq, GViewID.mk.injEq]
structure GItem where
  From : Int
  M : (List Nat)
def kItem : Kd GItem where
  sz := 2
  pos := by decide
  rep H x cs := ∃ (A1 : Option Addr) (n2 c3 : Nat), cs = [.int .i64 x.From, .slice A1 n2 c3] ∧ IB (x.From) ∧ By H A1 n2 c3 x.M
  len h := by obtain ⟨A1, n2, c3, rfl, _⟩ := h; rfl
  one h := by obtain ⟨A1, n2, c3, rfl, _⟩ := h; simp [Value.oneCell']
  mono hl h := by obtain ⟨A1, n2, c3, rfl, h0, h1⟩ := h; exact ⟨A1, n2, c3, rfl, h0, h1.mono hl⟩
  bts := 32
  bts0 := by decide
instance : DecidableEq GItem := fun a b => decidable_of_iff (a.From = b.From ∧ a.M = b.M) ⟨fun h => by cases a; cases b; simp_all, fun h => by rw [h]; simp⟩
instance : Inhabited GItem := ⟨(GItem.mk 0 [])⟩
structure GState where
  V : GViewID
  Floor : Int
  Items : (List GItem)
def kState : Kd GState where
  sz := 4
  pos := by decide
  rep H x cs := ∃ (A1 : Option Addr) (n2 c3 : Nat), cs = [.int .u64 (x.V.N : Int), .int .i64 x.V.P, .int .i64 x.Floor, .slice A1 n2 c3] ∧ x.V.N < 18446744073709551616 ∧ IB (x.V.P) ∧ IB (x.Floor) ∧ Sl kItem H A1 n2 c3 x.Items
  len h := by obtain ⟨A1, n2, c3, rfl, _⟩ := h; rfl
  one h := by obtain ⟨A1, n2, c3, rfl, _⟩ := h; simp [Value.oneCell']
  mono hl h := by obtain ⟨A1, n2, c3, rfl, h0, h1, h2, h3⟩ := h; exact ⟨A1, n2, c3, rfl, h0, h1, h2, h3.mono hl⟩
  bts := 48
  bts0 := by decide
instance : DecidableEq GState := fun a b => decidable_of_iff (a.V = b.V ∧ a.Floor = b.Floor ∧ a.Items = b.Items) ⟨fun h => by cases a; cases b; simp_all, fun h => by rw [h]; simp⟩
instance : Inhabited GState := ⟨(GState.mk (GViewID.mk 0 0) 0 [])⟩
structure GPacket where
  From : Int
  To : Int
  Bytes : (List Nat)
def kPacket : Kd GPacket where
  sz := 3
  pos := by decide
  rep H x cs := ∃ (A1 : Option Addr) (n2 c3 : Nat), cs = [.int .i64 x.From, .int .i64 x.To, .slice A1 n2 c3] ∧ IB (x.From) ∧ IB (x.To) ∧ By H A1 n2 c3 x.Bytes
  len h := by obtain ⟨A1, n2, c3, rfl, _⟩ := h; rfl
  one h := by obtain ⟨A1, n2, c3, rfl, _⟩ := h; simp [Value.oneCell']
  mono hl h := by obtain ⟨A1, n2, c3, rfl, h0, h1, h2⟩ := h; exact ⟨A1, n2, c3, rfl, h0, h1, h2.mono hl⟩
  bts := 40
  bts0 := by decide
instance : DecidableEq GPacket := fun a b => decidable_of_iff (a.From = b.From ∧ a.To = b.To ∧ a.Bytes = b.Bytes) ⟨fun h => by cases a; cases b; simp_all, fun h => by rw [h]; simp⟩
instance : Inhabited GPacket := ⟨(GPacket.mk 0 0 [])⟩
structure GEvent where
  Kind : Nat
  View : GView
  From : Int
  M : (List Nat)
def kEvent : Kd GEvent where
  sz := 6
  pos := by decide
  rep H x cs := ∃ (A1 : Option Addr) (n2 c3 : Nat), cs = [.int .u8 (x.Kind : Int), .int .u64 (x.View.ID.N : Int), .int .i64 x.View.ID.P, .int .u16 (x.View.Set : Int), .int .i64 x.From, .slice A1 n2 c3] ∧ x.Kind < 256 ∧ x.View.ID.N < 18446744073709551616 ∧ IB (x.View.ID.P) ∧ x.View.Set < 65536 ∧ IB (x.From) ∧ By H A1 n2 c3 x.M
  len h := by obtain ⟨A1, n2, c3, rfl, _⟩ := h; rfl
  one h := by obtain ⟨A1, n2, c3, rfl, _⟩ := h; simp [Value.oneCell']
  mono hl h := by obtain ⟨A1, n2, c3, rfl, h0, h1, h2, h3, h4, h5⟩ := h; exact ⟨A1, n2, c3, rfl, h0, h1, h2, h3, h4, h5.mono hl⟩
  bts := 64
  bts0 := by decide
instance : DecidableEq GEvent := fun a b => decidable_of_iff (a.Kind = b.Kind ∧ a.View = b.View ∧ a.From = b.From ∧ a.M = b.M) ⟨fun h => by cases a; cases b; simp_all, fun h => by rw [h]; simp⟩
instance : Inhabited GEvent := ⟨(GEvent.mk 0 (GView.mk (GViewID.mk 0 0) 0) 0 [])⟩
structure GFrame where
  Kind : Nat
  From : Int
  ID : GViewID
  Set : Nat
  Cur : GViewID
  Prom : GViewID
  States : (List GState)
  Base : Nat
  Msgs : (List (List Nat))
  Items : (List GItem)
  Ack : Nat
  Safe : Nat
def kFrame : Kd GFrame where
  sz := 15
  pos := by decide
  rep H x cs := ∃ (A1 : Option Addr) (n2 c3 : Nat), ∃ (A4 : Option Addr) (n5 c6 : Nat), ∃ (A7 : Option Addr) (n8 c9 : Nat), cs = [.int .u8 (x.Kind : Int), .int .i64 x.From, .int .u64 (x.ID.N : Int), .int .i64 x.ID.P, .int .u16 (x.Set : Int), .int .u64 (x.Cur.N : Int), .int .i64 x.Cur.P, .int .u64 (x.Prom.N : Int), .int .i64 x.Prom.P, .slice A1 n2 c3, .int .u64 (x.Base : Int), .slice A4 n5 c6, .slice A7 n8 c9, .int .u64 (x.Ack : Int), .int .u64 (x.Safe : Int)] ∧ x.Kind < 256 ∧ IB (x.From) ∧ x.ID.N < 18446744073709551616 ∧ IB (x.ID.P) ∧ x.Set < 65536 ∧ x.Cur.N < 18446744073709551616 ∧ IB (x.Cur.P) ∧ x.Prom.N < 18446744073709551616 ∧ IB (x.Prom.P) ∧ Sl kState H A1 n2 c3 x.States ∧ x.Base < 18446744073709551616 ∧ Sl kBs H A4 n5 c6 x.Msgs ∧ Sl kItem H A7 n8 c9 x.Items ∧ x.Ack < 18446744073709551616 ∧ x.Safe < 18446744073709551616
  len h := by obtain ⟨A1, n2, c3, A4, n5, c6, A7, n8, c9, rfl, _⟩ := h; rfl
  one h := by obtain ⟨A1, n2, c3, A4, n5, c6, A7, n8, c9, rfl, _⟩ := h; simp [Value.oneCell']
  mono hl h := by obtain ⟨A1, n2, c3, A4, n5, c6, A7, n8, c9, rfl, h0, h1, h2, h3, h4, h5, h6, h7, h8, h9, h10, h11, h12, h13, h14⟩ := h; exact ⟨A1, n2, c3, A4, n5, c6, A7, n8, c9, rfl, h0, h1, h2, h3, h4, h5, h6, h7, h8, h9.mono hl, h10, h11.mono hl, h12.mono hl, h13, h14⟩
  bts := 184
  bts0 := by decide
instance : DecidableEq GFrame := fun a b => decidable_of_iff (a.Kind = b.Kind ∧ a.From = b.From ∧ a.ID = b.ID ∧ a.Set = b.Set ∧ a.Cur = b.Cur ∧ a.Prom = b.Prom ∧ a.States = b.States ∧ a.Base = b.Base ∧ a.Msgs = b.Msgs ∧ a.Items = b.Items ∧ a.Ack = b.Ack ∧ a.Safe = b.Safe) ⟨fun h => by cases a; cases b; simp_all, fun h => by rw [h]; simp⟩
instance : Inhabited GFrame := ⟨(GFrame.mk 0 0 (GViewID.mk 0 0) 0 (GViewID.mk 0 0) (GViewID.mk 0 0) [] 0 [] [] 0 0)⟩
structure GAsk where
  Kind : Nat
  Most : Int
def kAsk : Kd GAsk where
  sz := 2
  pos := by decide
  rep H x cs := cs = [.int .u8 (x.Kind : Int), .int .i64 x.Most] ∧ x.Kind < 256 ∧ IB (x.Most)
  len h := by obtain ⟨rfl, _⟩ := h; rfl
  one h := by obtain ⟨rfl, _⟩ := h; simp [Value.oneCell']
  mono hl h := by obtain ⟨rfl, h0, h1⟩ := h; exact ⟨rfl, h0, h1⟩
  bts := 16
  bts0 := by decide
instance : DecidableEq GAsk := fun a b => decidable_of_iff (a.Kind = b.Kind ∧ a.Most = b.Most) ⟨fun h => by cases a; cases b; simp_all, fun h => by rw [h]; simp⟩
instance : Inhabited GAsk := ⟨(GAsk.mk 0 0)⟩
theorem GAsk.beq_dec (a b : GAsk) : ((((a.Kind : Nat) : Int) == ((b.Kind : Nat) : Int)) && ((a.Most == b.Most) && true)) = decide (a = b) := by
  rw [Bool.eq_iff_iff]
  obtain ⟨aKind, aMost⟩ := a
  obtain ⟨bKind, bMost⟩ := b
  simp only [Bool.and_eq_true, beq_iff_eq, decide_eq_true_eq, Int.ofNat_inj, Int.natCast_inj, and_true, and_assoc, GAsk.mk.injEq]
end Go.FM
