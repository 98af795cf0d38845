/- The index as a plain machine: its state, a thread's next step as data, what each step makes of them. No program in sight. -/
/- More of what lists of pairs whose keys rise tell. Plain Lean. -/
/- What the reference's looks in lists of pairs tell, as plain functions. -/
/- One leaf: what each step of the plain machine does there. No program in sight. -/
/- What the laws of layers 4 to 10 begin with: made. -/
/- The walks of the reference's Find, MayPairs, SamePairs, Without, Between. -/
import Derived.Test.YtghjnkfocjjlnaaGreatT07
import Derived.Test.YtghjnkfocjjlnaaGreatT01
import Derived.Test.YtghjnkfocjjlnaaGreatT05
set_option linter.unusedSimpArgs false
set_option linter.unusedVariables false
section
namespace Go.Proofs.YtghjnkfocjjlnaaGreat
set_option maxRecDepth 100000
open Go.RowKit (wrap64)
structure OpR where
  kind : Int
  key : Int
  hi : Int
  val : Int
deriving DecidableEq
structure AnsR where
  err : Int
  ok : Bool
  key : Int
  val : Int
  n : Int
  pairs : List Pr
structure PolR where
  high : Int
  low : Int
  cont : Int
  uncont : Int
  multi : Int
structure BaseR where
  id : Int
  kind : Int
  treap : Int
  stat : Int
  home : Int
structure MainR where
  base : BaseR
  state : Int
structure StoreR where
  id : Int
  lo : Int
  hi : Int
  result : Int
  quiet : Bool
  call : Int
structure RouteR where
  id : Int
  key : Int
  left : Int
  right : Int
  join : Int
structure PlanR where
  id : Int
  joined : Int
  neigh : Int
  parent : Int
  cell : Int
  lock : Int
  replaces : Int
structure FoundR where
  base : BaseR
  cell : Int
  up : Int
  most : Int
  isMost : Bool
structure JobR where
  store : StoreR
  bases : List Int
  full : Bool
/-- Where a look goes on behind the base that it has found. -/
inductive K0 | gets | ends | spans
/-- Where a whole range goes on. -/
inductive KB | spans | ends
mutual
/-- func() -/
inductive KU
  | upd
  | looks (key : Int) (k : K0)
  | leaf (j : JobR) (key : Int) (k : KR)
  | ret (a : AnsR)
  | retS (a : AnsR)
/-- func(result int) of a range -/
inductive KR
  | whole (lo hi quiet : Int) (k : KB)
  | help (k : KU)
end
structure JoinR where
  main : MainR
  neigh : BaseR
  up : RouteR
  right : Bool
  locks : List Int
  cell : Int
  k : KU
/-- func(f found) -/
inductive KF
  | looks (key : Int) (k : K0)
  | upd
  | leaf (j : JobR) (key : Int) (k : KR)
  | joins (b : BaseR) (k : KU)
/-- func(ok bool, stat int) -/
inductive KS
  | upd (f : FoundR)
  | joins (n : BaseR) (j : JoinR)
  | leaf (j : JobR) (f : FoundR) (key : Int) (k : KR)
/-- func() behind a lock -/
inductive KL | above | plans (lock : Int)
/-- func(v int) behind a load -/
inductive KI
  | down (f : FoundR) (key : Int) (k : KF)
  | main (f : FoundR) (key : Int) (k : K0)
  | main2 (f : FoundR) (key : Int) (k : K0)
  | freeMain (b : BaseR) (k : KS)
  | freeNeigh (b : BaseR) (k : KS)
  | freeRange (b : BaseR) (k : KS)
  | help (m : MainR) (k : KU)
  | end_ (right : Bool) (j : JoinR)
  | above (cell up : Int) (j : JoinR)
  | plans (j : JoinR) (lock : Int)
  | leaf (j : JobR) (f : FoundR) (key : Int) (k : KR)
  | res (j : JobR) (k : KR)
/-- func(ok bool) behind a swap, or a once -/
inductive KW
  | upd (id : Int) (a : AnsR)
  | split (k : KU)
  | takesMain (j : JoinR) (n : BaseR) (id : Int)
  | takesNeigh (j : JoinR) (id : Int)
  | locks (j : JoinR) (cell : Int) (k : KL)
  | gives (j : JoinR)
  | aborts (k : KU)
  | plans (j : JoinR) (id : Int)
  | comp1 (m : MainR) (p : PlanR) (k : KU)
  | comp2 (m : MainR) (p : PlanR) (k : KU)
  | comp3 (m : MainR) (p : PlanR) (k : KU)
  | comp4 (k : KU)
  | marks (j : JobR) (f : FoundR) (id key : Int) (k : KR)
  | results (j : JobR) (r : Int) (k : KR)
/-- A thread's next step. -/
inductive Nx
  | load (cell : Int) (k : KI)
  | swap (cell old now : Int) (k : KW)
  | once (cell v : Int) (k : KW)
  | nothing
structure Th where
  busy : Bool
  op : OpR
  call : Int
  late : Bool
  next : Option Nx
  over : Bool
  ans : AnsR
structure Ix where
  a : Ar
  p : PolR
  root : Int
  ths : List Th
  calls : Int
  order : List Int
  steps : Int
  splits : Int
  joins : Int
def ans0 : AnsR := ⟨0, false, 0, 0, 0, []⟩
def op0 : OpR := ⟨0, 0, 0, 0⟩
def th0 : Th := ⟨false, op0, 0, false, none, false, ans0⟩
def base0 : BaseR := ⟨0, 0, 0, 0, 0⟩
namespace Ix
set_option maxRecDepth 100000
def th (S : Ix) (i : Nat) : Th := S.ths.getD i th0
def mod (S : Ix) (i : Nat) (f : Th → Th) : Ix := { S with ths := S.ths.set i (f (S.th i)) }
def arena (S : Ix) (a : Ar) : Ix := { S with a := a }
def val (S : Ix) (id i : Int) : Int := valO (some S.a) id i
def kind (S : Ix) (id : Int) : Int := kindO (some S.a) id
def base (S : Ix) (id : Int) : BaseR := ⟨id, S.kind id, S.val id 0, S.val id 1, S.val id 2⟩
def main (S : Ix) (id : Int) : MainR := ⟨S.base id, S.val id 3⟩
def store (S : Ix) (id : Int) : StoreR := ⟨id, S.val id 0, S.val id 1, S.val id 2, S.val id 3 == 1, S.val id 4⟩
def next (S : Ix) (i : Nat) (n : Nx) : Ix := S.mod i fun t => { t with next := some n }
def load (S : Ix) (i : Nat) (cell : Int) (k : KI) : Ix := S.next i (.load cell k)
def swap (S : Ix) (i : Nat) (cell old now : Int) (k : KW) : Ix := S.next i (.swap cell old now k)
def once (S : Ix) (i : Nat) (cell v : Int) (k : KW) : Ix := S.next i (.once cell v k)
def took (S : Ix) (c : Int) : Ix := { S with order := S.order ++ [c] }
def returns (S : Ix) (i : Nat) (a : AnsR) : Ix := S.mod i fun t => { t with busy := false, over := true, ans := a }
def tells (S : Ix) (i : Nat) (a : AnsR) : Ix := (S.took (S.th i).call).returns i a
def full (S : Ix) (i : Nat) : Ix := S.returns i ⟨2, false, 0, 0, 0, []⟩
def late (S : Ix) (i : Nat) : Ix := S.mod i fun t => { t with late := true }
def down (S : Ix) (i : Nat) (f : FoundR) (key : Int) (k : KF) : Ix := S.load i f.cell (.down f key k)
def find (S : Ix) (i : Nat) (key : Int) (k : KF) : Ix := S.down i ⟨base0, S.root, 0, 0, false⟩ key k
def looks (S : Ix) (i : Nat) (key : Int) (k : K0) : Ix := S.find i key (.looks key k)
def update (S : Ix) (i : Nat) : Ix := S.find i (S.th i).op.key .upd
def joinsAt (S : Ix) (i : Nat) (b : BaseR) (key : Int) (k : KU) : Ix := S.find i key (.joins b k)
def leafOf (S : Ix) (i : Nat) (j : JobR) (key : Int) (k : KR) : Ix := S.find i key (.leaf j key k)
def spans (S : Ix) (i : Nat) : Ix := if (S.th i).op.hi < (S.th i).op.key then S.next i .nothing else S.looks i (S.th i).op.key .spans
def begins (S : Ix) (i : Nat) : Ix :=
  if (S.th i).op.kind = 1 ∨ (S.th i).op.kind = 2 ∨ (S.th i).op.kind = 3 then S.update i
  else if (S.th i).op.kind = 4 then S.looks i (S.th i).op.key .gets
  else if (S.th i).op.kind = 7 then S.looks i (-9223372036854775808) .ends
  else if (S.th i).op.kind = 8 then S.looks i 9223372036854775807 .ends
  else S.spans i
def applyU (S : Ix) (i : Nat) : KU → Ix
  | .upd => S.update i
  | .looks key k => S.looks i key k
  | .leaf j key k => S.leafOf i j key k
  | .ret a => S.returns i a
  | .retS a => S.returns i a
end Ix
def had (key v : Int) (ok : Bool) : AnsR := if ok = true then ⟨0, true, key, v, 0, []⟩ else ans0
def heldP (n least most : Int) : Int := min (max n least) most
def clampP (p : PolR) : PolR := ⟨heldP p.high 1 100000, heldP p.low (-100000) 0, heldP p.cont (-100000) 100000, heldP p.uncont (-100000) 100000, heldP p.multi (-100000) 100000⟩
def heldS (n : Int) : Int := min (max n (-1000000)) 1000000
/-- A stat behind what befell. -/
def nextS (p : PolR) (s what : Int) : Int :=
  if what = 1 then heldS (heldS s + (clampP p).cont) else if what = 2 then heldS (heldS s - (clampP p).uncont) else if what = 3 then heldS (heldS s - (clampP p).multi) else heldS (heldS s)
def decideS (p : PolR) (s : Int) : Int := if (clampP p).high < heldS s then 1 else if heldS s < (clampP p).low then 2 else 0
namespace Ix
set_option maxRecDepth 100000
noncomputable def gets (S : Ix) (i : Nat) (f : FoundR) : Ix :=
  S.tells i (had (S.th i).op.key (lgF (fuel f.base.treap) (some S.a) f.base.treap (S.th i).op.key).1 (lgF (fuel f.base.treap) (some S.a) f.base.treap (S.th i).op.key).2)
/-- What an update makes of a treap. -/
noncomputable def treapOf (S : Ix) (i : Nat) (t : Int) : Int × Int × Bool × Int × OA :=
  if (S.th i).op.kind = 1 then putO (some S.a) t (S.th i).op.key (S.th i).op.val
  else if (S.th i).op.kind = 2 then addO (some S.a) t (S.th i).op.key (S.th i).op.val
  else cutO (some S.a) t (S.th i).op.key
def ofA (S : Ix) (A : OA) : Ix := { S with a := A.getD S.a }
/-- A new base for an update: its number, what it tells, why not, and the index. -/
noncomputable def made (S : Ix) (i : Nat) (b : BaseR) (pressed : Int) : Int × AnsR × Int × Ix :=
  if (S.treapOf i b.treap).2.2.2.1 ≠ 0 then (0, ans0, (S.treapOf i b.treap).2.2.2.1, S.ofA (S.treapOf i b.treap).2.2.2.2)
  else
    ((makeO (some (S.ofA (S.treapOf i b.treap).2.2.2.2).a) 3 [(S.treapOf i b.treap).1, nextS S.p pressed (if (S.th i).late = true then 1 else 2), b.home]).1,
     had (S.th i).op.key (S.treapOf i b.treap).2.1 (S.treapOf i b.treap).2.2.1,
     (makeO (some (S.ofA (S.treapOf i b.treap).2.2.2.2).a) 3 [(S.treapOf i b.treap).1, nextS S.p pressed (if (S.th i).late = true then 1 else 2), b.home]).2.1,
     (S.ofA (S.treapOf i b.treap).2.2.2.2).ofA (makeO (some (S.ofA (S.treapOf i b.treap).2.2.2.2).a) 3 [(S.treapOf i b.treap).1, nextS S.p pressed (if (S.th i).late = true then 1 else 2), b.home]).2.2)
noncomputable def split (S : Ix) (i : Nat) (b : BaseR) (k : KU) : Ix :=
  if (halfO (some S.a) b.treap).2.2.2.1 ≠ 0 then (S.ofA (halfO (some S.a) b.treap).2.2.2.2).applyU i k else S.ofA (halfO (some S.a) b.treap).2.2.2.2
noncomputable def bend (S : Ix) (i : Nat) (b : BaseR) (key : Int) (k : KU) : Ix :=
  if decideS S.p b.stat = 1 then S.split i b k else if decideS S.p b.stat = 2 then S.joinsAt i b key k else S.applyU i k
/-- An update that may replace a base. -/
noncomputable def freeUpd (S : Ix) (i : Nat) (f : FoundR) (st : Int) : Ix :=
  if (S.made i f.base st).2.2.1 ≠ 0 then (S.made i f.base st).2.2.2.full i
  else (S.made i f.base st).2.2.2.swap i f.base.home f.base.id (S.made i f.base st).1 (.upd (S.made i f.base st).1 (S.made i f.base st).2.1)
noncomputable def apply0 (S : Ix) (i : Nat) (f : FoundR) : K0 → Ix
  | .gets => S.gets i f
  | _ => S
noncomputable def applyF (S : Ix) (i : Nat) (f : FoundR) : KF → Ix
  | .upd => S.freeUpd i f f.base.stat
  | .looks _ k => S.apply0 i f k
  | .joins _ k => S.applyU i k
  | .leaf _ _ _ => S
noncomputable def applyI (S : Ix) (i : Nat) (v : Int) : KI → Ix
  | .down f _ k => S.applyF i { f with base := S.base v } k
  | _ => S
noncomputable def applyW (S : Ix) (i : Nat) (ok : Bool) : KW → Ix
  | .upd id a => if ok = true then (S.took (S.th i).call).bend i (S.base id) (S.th i).op.key (.ret a) else (S.late i).update i
  | _ => S
def rest (S : Ix) (i : Nat) : Ix := ({ S with steps := wrap64 (S.steps + 1) } : Ix).mod i fun t => { t with next := none }
/-- A step of a thread that is at work. -/
noncomputable def step (S : Ix) (i : Nat) : Ix :=
  match (S.th i).next with
  | some (.load c k) => ((S.rest i).ofA (loadO (some S.a) c).2).applyI i (loadO (some S.a) c).1 k
  | some (.swap c o n k) => ((S.rest i).ofA (swapO (some S.a) c o n).2).applyW i (swapO (some S.a) c o n).1 k
  | _ => S
def callAt (S : Ix) (i : Nat) (op : OpR) : Ix :=
  ({ S.mod i (fun t => { t with busy := true, late := false, op := op, call := S.calls }) with calls := wrap64 (S.calls + 1) } : Ix).begins i
end Ix
end Go.Proofs.YtghjnkfocjjlnaaGreat
end
section
namespace Go.Proofs.YtghjnkfocjjlnaaGreat
set_option maxRecDepth 100000
def betw (lo hi : Int) (l : List Pr) : List Pr := l.filter (fun p => decide (lo ≤ p.1) && decide (p.1 ≤ hi))
end Go.Proofs.YtghjnkfocjjlnaaGreat
end
section
namespace Go.Proofs.YtghjnkfocjjlnaaGreat
set_option maxRecDepth 100000
open Go.RowKit (wrap64)
set_option linter.unusedVariables false
set_option linter.unusedSimpArgs false
/-- Records stay as they are; cells may turn; there may be more. -/
structure Ek (a b : Ar) : Prop where
  room : b.room = a.room
  len : a.slots.length ≤ b.slots.length
  kind : ∀ id : Int, 1 ≤ id → id ≤ a.slots.length → (slotAt b id).kind = (slotAt a id).kind
  slot : ∀ id : Int, 1 ≤ id → id ≤ a.slots.length → (slotAt a id).kind ≠ 0 → slotAt b id = slotAt a id
theorem Ek.refl (a : Ar) : Ek a a := ⟨rfl, Nat.le_refl _, fun _ _ _ => rfl, fun _ _ _ _ => rfl⟩
theorem Ek.trans {a b c : Ar} (h : Ek a b) (k : Ek b c) : Ek a c where
  room := k.room.trans h.room
  len := Nat.le_trans h.len k.len
  kind := fun id h1 h2 => (k.kind id h1 (by have := h.len; omega)).trans (h.kind id h1 h2)
  slot := fun id h1 h2 h3 => (k.slot id h1 (by have := h.len; omega) (by rw [h.kind id h1 h2]; exact h3)).trans (h.slot id h1 h2 h3)
theorem Ext.ek {a b : Ar} (h : Ext a b) : Ek a b := ⟨h.1, h.len, fun id h1 h2 => by rw [h.slot h1 h2], fun id h1 h2 _ => h.slot h1 h2⟩
theorem Ek.step (a : Ar) : Ek a (stepA a) := ⟨rfl, Nat.le_refl _, fun _ _ _ => rfl, fun _ _ _ _ => rfl⟩
theorem slotAt_put {a : Ar} {id v j : Int} (h1 : 1 ≤ id) (h2 : id ≤ a.slots.length) (h3 : 1 ≤ j) : slotAt (putA a id v) j = if j = id then ⟨0, [v]⟩ else slotAt a j := by
  unfold slotAt putA
  simp only [List.getD_eq_getElem?_getD]
  by_cases e : j = id
  · subst e
    rw [if_pos rfl, List.getElem?_set_self (by omega)]; rfl
  · rw [if_neg e, List.getElem?_set_ne (by omega)]
theorem isCell_in {a : Ar} {id : Int} (h : isCell (some a) id = true) : 1 ≤ id ∧ id ≤ a.slots.length ∧ (slotAt a id).kind = 0 := of_decide_eq_true h
theorem isCell_of {a : Ar} {id : Int} (h1 : 1 ≤ id) (h2 : id ≤ a.slots.length) (h3 : (slotAt a id).kind = 0) : isCell (some a) id = true := decide_eq_true ⟨h1, h2, h3⟩
theorem Ek.put {a : Ar} {id v : Int} (h : isCell (some a) id = true) : Ek a (putA a id v) := by
  obtain ⟨h1, h2, h3⟩ := isCell_in h
  refine ⟨rfl, by simp [putA], fun j k1 k2 => ?_, fun j k1 k2 k3 => ?_⟩
  · rw [slotAt_put h1 h2 k1]
    by_cases e : j = id
    · rw [if_pos e, e, h3]
    · rw [if_neg e]
  · rw [slotAt_put h1 h2 k1, if_neg (by rintro rfl; exact k3 h3)]
theorem holds_put {a : Ar} {id v : Int} (h : isCell (some a) id = true) : holds (putA a id v) id = v := by
  obtain ⟨h1, h2, h3⟩ := isCell_in h
  unfold holds
  rw [slotAt_put h1 h2 h1, if_pos rfl]; rfl
theorem Ek.cell {a b : Ar} (h : Ek a b) {id : Int} (hc : isCell (some a) id = true) : isCell (some b) id = true := by
  obtain ⟨h1, h2, h3⟩ := isCell_in hc
  exact isCell_of h1 (by have := h.len; omega) ((h.kind id h1 h2).trans h3)
theorem Ek.node {a b : Ar} (h : Ek a b) {t : Int} (hn : isN (some a) t = true) : isN (some b) t = true := by
  obtain ⟨h1, h2, h3⟩ := isN_in hn
  exact isN_of h1 (by have := h.len; omega) ((h.kind t h1 h2).trans h3)
theorem Ek.says {a b : Ar} (h : Ek a b) {t : Int} (hn : isN (some a) t = true) : getN (some b) t = getN (some a) t := by
  obtain ⟨h1, h2, h3⟩ := isN_in hn
  have hl := h.len
  have hs := h.slot t h1 h2 (by rw [h3]; decide)
  unfold getN
  simp only [kind_some, val_some, hs, h1, h2, true_and, and_self, if_true, show t ≤ (b.slots.length : Int) by omega]
theorem Tr.ek {a b : Ar} {t : Int} {l : List Pr} (h : Ek a b) (ht : Tr a t l) : Tr b t l := by
  induction ht with
  | nil => exact .nil
  | node t k v x y l1 l2 hn hg ht hx hy h1 h2 i1 i2 => exact .node t k v x y l1 l2 (h.node hn) ((h.says hn).trans hg) ht hx hy i1 i2
/-- The base id, with its pairs and its stat, at home in r. -/
def RecB (a : Ar) (r id : Int) (l : List Pr) (s : Int) : Prop := 1 ≤ id ∧ id ≤ a.slots.length ∧ ∃ t, slotAt a id = ⟨3, [t, s, r]⟩ ∧ Tr a t l
theorem RecB.ek {a b : Ar} {r id : Int} {l : List Pr} {s : Int} (h : RecB a r id l s) (k : Ek a b) : RecB b r id l s := by
  obtain ⟨h1, h2, t, h3, h4⟩ := h
  exact ⟨h1, by have := k.len; omega, t, (k.slot id h1 h2 (by rw [h3]; intro e; cases e)).trans h3, h4.ek k⟩
theorem RecB.base {S : Ix} {r id : Int} {l : List Pr} {s : Int} (h : RecB S.a r id l s) : ∃ t, S.base id = ⟨id, 3, t, s, r⟩ ∧ Tr S.a t l := by
  obtain ⟨h1, h2, t, h3, h4⟩ := h
  refine ⟨t, ?_, h4⟩
  simp [Ix.base, Ix.kind, Ix.val, kind_some, val_some, h1, h2, h3]
theorem RecB.sub {a : Ar} {r id : Int} {l : List Pr} {s : Int} (h : RecB a r id l s) : kindO (some a) id = 3 := by
  obtain ⟨h1, h2, t, h3, h4⟩ := h
  rw [kind_some, if_pos ⟨h1, h2⟩, h3]
/-- An update on pairs. -/
def doL (op : OpR) (l : List Pr) : List Pr := if op.kind = 1 then ins l (op.key, op.val) else if op.kind = 2 then (if (gotP l op.key).2 = true then l else ins l (op.key, op.val)) else less op.key l
def hadL (op : OpR) (l : List Pr) : AnsR := had op.key (gotP l op.key).1 (gotP l op.key).2
theorem gotP_none {l : List Pr} {key : Int} (h : (gotP l key).2 = false) : ∀ p ∈ l, p.1 ≠ key := by
  unfold gotP at h
  intro p hp e
  cases hf : l.find? (fun p => p.1 == key) with
  | some x => rw [hf] at h; cases h
  | none => have := List.find?_eq_none.1 hf p hp; simp [e] at this
/-- What an update makes of a treap. -/
theorem treapOf_tr {S : Ix} {i : Nat} {t : Int} {l : List Pr} (hk : (S.th i).op.kind = 1 ∨ (S.th i).op.kind = 2 ∨ (S.th i).op.kind = 3) (ht : Tr S.a t l) (hs : Sorted l) (hlen : l.length < 1000000) (hf : fits S.a) :
    ∃ a', Ext S.a a' ∧ fits a' ∧ a'.slots.length ≤ S.a.slots.length + (2 * hgt l + 1) ∧ (S.treapOf i t).2.2.2.2 = some a' ∧
      (((S.treapOf i t).2.2.2.1 = 0 ∧ ((S.treapOf i t).2.1, (S.treapOf i t).2.2.1) = gotP l (S.th i).op.key ∧ Tr a' (S.treapOf i t).1 (doL (S.th i).op l)) ∨
       ((S.treapOf i t).2.2.2.1 = 2 ∧ (a'.slots.length : Int) = a'.room ∧ a'.slots.length < S.a.slots.length + (2 * hgt l + 1))) := by
  have hput := putO_tr ht hs hlen hf (S.th i).op.key (S.th i).op.val
  rcases hk with hk | hk | hk
  · have e : S.treapOf i t = putO (some S.a) t (S.th i).op.key (S.th i).op.val := by unfold Ix.treapOf; rw [if_pos hk]
    rw [e]
    obtain ⟨a', h1, h2, h3, h4⟩ := hput
    refine ⟨a', h1, h2, by omega, ?_⟩
    rcases h4 with ⟨u, h4, h5⟩ | ⟨h4, h5, h6⟩
    · rw [h4]; exact ⟨rfl, .inl ⟨rfl, rfl, by unfold doL; rw [if_pos hk]; exact h5⟩⟩
    · rw [h4]; exact ⟨rfl, .inr ⟨rfl, h5, by omega⟩⟩
  · have e : S.treapOf i t = addO (some S.a) t (S.th i).op.key (S.th i).op.val := by unfold Ix.treapOf; rw [if_neg (by omega), if_pos hk]
    rw [e]
    unfold addO
    rw [if_neg (by rw [isT_tr ht]; decide), lgF_tr ht hs _ _ (lt_fuel t)]
    by_cases hg : (gotP l (S.th i).op.key).2 = true
    · rw [if_pos hg]
      exact ⟨S.a, Ext.refl _, hf, by omega, rfl, .inl ⟨rfl, by rw [← hg], by unfold doL; rw [if_neg (by omega), if_pos hk, if_pos hg]; exact ht⟩⟩
    · rw [if_neg hg]
      obtain ⟨a', h1, h2, h3, h4⟩ := hput
      refine ⟨a', h1, h2, by omega, ?_⟩
      rcases h4 with ⟨u, h4, h5⟩ | ⟨h4, h5, h6⟩
      · rw [h4]; exact ⟨rfl, .inl ⟨rfl, rfl, by unfold doL; rw [if_neg (by omega), if_pos hk, if_neg hg]; exact h5⟩⟩
      · rw [h4]; exact ⟨rfl, .inr ⟨rfl, h5, by omega⟩⟩
  · have e : S.treapOf i t = cutO (some S.a) t (S.th i).op.key := by unfold Ix.treapOf; rw [if_neg (by omega), if_neg (by omega)]
    rw [e]
    have hd : doL (S.th i).op l = less (S.th i).op.key l := by unfold doL; rw [if_neg (by omega), if_neg (by omega)]
    rcases cutO_tr ht hs (by omega) hf (S.th i).op.key with ⟨hg, h4⟩ | ⟨hg, a', h1, h2, h3, h4⟩
    · have hg2 : gotP l (S.th i).op.key = (0, false) := by
        unfold gotP at hg ⊢
        split at hg
        · cases hg
        · rfl
      rw [h4]
      exact ⟨S.a, Ext.refl _, hf, by omega, rfl, .inl ⟨rfl, hg2.symm, by rw [hd, less_all (gotP_none hg)]; exact ht⟩⟩
    · refine ⟨a', h1, h2, by omega, ?_⟩
      rcases h4 with ⟨u, h4, h5⟩ | ⟨h4, h5, h6⟩
      · rw [h4]; exact ⟨rfl, .inl ⟨rfl, by rw [← hg], by rw [hd]; exact h5⟩⟩
      · rw [h4]; exact ⟨rfl, .inr ⟨rfl, h5, by omega⟩⟩
theorem make3 (a : Ar) (hf : fits a) (x y z : Int) : ∃ a', Ext a a' ∧ fits a' ∧ a'.slots.length ≤ a.slots.length + 1 ∧ (makeO (some a) 3 [x, y, z]).2.2 = some a' ∧
    (((makeO (some a) 3 [x, y, z]).2.1 = 0 ∧ 1 ≤ (makeO (some a) 3 [x, y, z]).1 ∧ (makeO (some a) 3 [x, y, z]).1 ≤ a'.slots.length ∧ slotAt a' (makeO (some a) 3 [x, y, z]).1 = ⟨3, [x, y, z]⟩) ∨
     ((makeO (some a) 3 [x, y, z]).2.1 = 2 ∧ a' = a ∧ (a.slots.length : Int) = a.room)) := by
  rw [makeO_some _ _ _ (by simp)]
  unfold fits at hf
  by_cases hr : a.room - (a.slots.length : Int) = 0
  · rw [add_full hr]
    exact ⟨a, Ext.refl a, hf, by omega, rfl, .inr ⟨rfl, rfl, by omega⟩⟩
  · rw [add_ok (by omega)]
    refine ⟨⟨a.room, a.slots ++ [⟨3, [x, y, z]⟩], a.steps⟩, ⟨rfl, rfl, _, rfl⟩, by unfold fits; simp; omega, by simp, rfl, .inl ⟨rfl, by show 1 ≤ (a.slots.length : Int) + 1; omega, by simp, ?_⟩⟩
    unfold slotAt
    simp
/-- What an update makes. -/
theorem made_tr {S : Ix} {i : Nat} {b : BaseR} {l : List Pr} (st : Int) (hk : (S.th i).op.kind = 1 ∨ (S.th i).op.kind = 2 ∨ (S.th i).op.kind = 3) (ht : Tr S.a b.treap l) (hs : Sorted l) (hlen : l.length < 1000000) (hf : fits S.a) :
    ∃ a', Ext S.a a' ∧ fits a' ∧ a'.slots.length ≤ S.a.slots.length + (2 * hgt l + 2) ∧ (S.made i b st).2.2.2 = S.arena a' ∧
      (((S.made i b st).2.2.1 = 0 ∧ (S.made i b st).2.1 = hadL (S.th i).op l ∧ RecB a' b.home (S.made i b st).1 (doL (S.th i).op l) (nextS S.p st (if (S.th i).late = true then 1 else 2))) ∨
       ((S.made i b st).2.2.1 = 2 ∧ (a'.slots.length : Int) = a'.room ∧ a'.slots.length < S.a.slots.length + (2 * hgt l + 2))) := by
  obtain ⟨a1, h1, h2, h3, h4, h5⟩ := treapOf_tr hk ht hs hlen hf
  unfold Ix.made
  rcases h5 with ⟨e0, e1, e2⟩ | ⟨e0, e1, e2⟩
  · rw [if_neg (by omega)]
    have ha : (S.ofA (S.treapOf i b.treap).2.2.2.2) = S.arena a1 := by rw [h4]; rfl
    rw [ha]
    obtain ⟨a2, k1, k2, k3, k4, k5⟩ := make3 a1 h2 (S.treapOf i b.treap).1 (nextS S.p st (if (S.th i).late = true then 1 else 2)) b.home
    refine ⟨a2, h1.trans k1, k2, by omega, ?_, ?_⟩
    · show (S.arena a1).ofA (makeO (some a1) 3 _).2.2 = _
      rw [k4]; rfl
    · rcases k5 with ⟨q0, q1, q2, q3⟩ | ⟨q0, q1, q2⟩
      · refine .inl ⟨q0, ?_, q1, q2, _, q3, e2.ext k1⟩
        show had _ _ _ = _
        unfold hadL
        rw [← e1]
      · exact .inr ⟨q0, by rw [q1]; exact q2, by rw [q1]; omega⟩
  · rw [if_pos (by omega)]
    refine ⟨a1, h1, h2, by omega, by rw [h4]; rfl, .inr ⟨e0, e1, by omega⟩⟩
/-- Of an index: one thread is another one, the arena, the order; the rest is as it was. -/
structure Upd (S : Ix) (i : Nat) (t : Th) (a : Ar) (o : List Int) (S' : Ix) : Prop where
  ths : S'.ths = S.ths.set i t
  a : S'.a = a
  p : S'.p = S.p
  root : S'.root = S.root
  order : S'.order = o
theorem Upd.self {S S' : Ix} {i : Nat} {t : Th} {a : Ar} {o : List Int} (h : Upd S i t a o S') (hi : i < S.ths.length) : S'.th i = t := by
  simp [Ix.th, h.ths, List.getD_eq_getElem?_getD, hi]
theorem Upd.other {S S' : Ix} {i j : Nat} {t : Th} {a : Ar} {o : List Int} (h : Upd S i t a o S') (hj : j ≠ i) : S'.th j = S.th j := by
  simp only [Ix.th, h.ths, List.getD_eq_getElem?_getD]
  rw [List.getElem?_set_ne (by omega)]
def fnd (r : Int) : FoundR := ⟨base0, r, 0, 0, false⟩
theorem Upd.mod {S X : Ix} {i : Nat} {t : Th} {a : Ar} {o : List Int} (h : Upd S i t a o X) (hi : i < S.ths.length) (f : Th → Th) : Upd S i (f t) a o (X.mod i f) :=
  ⟨by show X.ths.set i (f (X.th i)) = _; rw [h.self hi, h.ths]; simp, h.a, h.p, h.root, h.order⟩
theorem Upd.arena {S X : Ix} {i : Nat} {t : Th} {a : Ar} {o : List Int} (h : Upd S i t a o X) (a' : Ar) : Upd S i t a' o (X.arena a') := ⟨h.ths, rfl, h.p, h.root, h.order⟩
theorem Upd.took {S X : Ix} {i : Nat} {t : Th} {a : Ar} {o : List Int} (h : Upd S i t a o X) (c : Int) : Upd S i t a (o ++ [c]) (X.took c) := ⟨h.ths, h.a, h.p, h.root, by show X.order ++ [c] = _; rw [h.order]⟩
theorem Upd.rest (S : Ix) (i : Nat) : Upd S i { S.th i with next := none } S.a S.order (S.rest i) := ⟨rfl, rfl, rfl, rfl, rfl⟩
theorem Upd.next {S X : Ix} {i : Nat} {t : Th} {a : Ar} {o : List Int} (h : Upd S i t a o X) (hi : i < S.ths.length) (n : Nx) : Upd S i { t with next := some n } a o (X.next i n) := h.mod hi (fun t => { t with next := some n })
theorem Upd.returns {S X : Ix} {i : Nat} {t : Th} {a : Ar} {o : List Int} (h : Upd S i t a o X) (hi : i < S.ths.length) (n : AnsR) : Upd S i { t with busy := false, over := true, ans := n } a o (X.returns i n) := h.mod hi (fun t => { t with busy := false, over := true, ans := n })
theorem Upd.late {S X : Ix} {i : Nat} {t : Th} {a : Ar} {o : List Int} (h : Upd S i t a o X) (hi : i < S.ths.length) : Upd S i { t with late := true } a o (X.late i) := h.mod hi (fun t => { t with late := true })
def full_ : AnsR := ⟨2, false, 0, 0, 0, []⟩
theorem load_cell {a : Ar} {r : Int} (hc : isCell (some a) r = true) : loadO (some a) r = (holds a r, some (stepA a)) := by show (if isCell (some a) r = true then _ else _) = _; rw [if_pos hc]
theorem step_load {S : Ix} {i : Nat} {r : Int} {k : KI} (hx : (S.th i).next = some (.load r k)) (hc : isCell (some S.a) r = true) : S.step i = ((S.rest i).arena (stepA S.a)).applyI i (holds S.a r) k := by
  unfold Ix.step
  rw [hx]
  show ((S.rest i).ofA (loadO (some S.a) r).2).applyI i (loadO (some S.a) r).1 k = _
  rw [load_cell hc]; rfl
theorem step_swap {S : Ix} {i : Nat} {r old now : Int} {k : KW} (hx : (S.th i).next = some (.swap r old now k)) (hc : isCell (some S.a) r = true) :
    S.step i = if holds S.a r = old then ((S.rest i).arena (putA (stepA S.a) r now)).applyW i true k else ((S.rest i).arena (stepA S.a)).applyW i false k := by
  unfold Ix.step
  rw [hx]
  show ((S.rest i).ofA (swapO (some S.a) r old now).2).applyW i (swapO (some S.a) r old now).1 k = _
  unfold swapO
  simp only []
  rw [if_pos hc]
  split <;> rfl
theorem fits_step {a : Ar} (h : fits a) : fits (stepA a) := h
theorem fits_put {a : Ar} (h : fits a) (id v : Int) : fits (putA a id v) := by unfold fits putA at *; simpa using h
theorem holds_ext {a b : Ar} (h : Ext a b) {r : Int} (hc : isCell (some a) r = true) : holds b r = holds a r := by
  obtain ⟨h1, h2, h3⟩ := isCell_in hc
  unfold holds
  rw [h.slot h1 h2]
/-- An update has found its base. -/
theorem step_upd {S : Ix} {i : Nat} {r key : Int} {l : List Pr} {s : Int} (hi : i < S.ths.length) (hx : (S.th i).next = some (.load r (.down (fnd r) key .upd))) (hc : isCell (some S.a) r = true) (hb : RecB S.a r (holds S.a r) l s)
    (hs : Sorted l) (hlen : l.length < 1000000) (hf : fits S.a) (hk : (S.th i).op.kind = 1 ∨ (S.th i).op.kind = 2 ∨ (S.th i).op.kind = 3) :
    ∃ a', Ek S.a a' ∧ fits a' ∧ holds a' r = holds S.a r ∧ a'.slots.length ≤ S.a.slots.length + (2 * hgt l + 2) ∧
      ((∃ now, Upd S i { S.th i with next := some (.swap r (holds S.a r) now (.upd now (hadL (S.th i).op l))) } a' S.order (S.step i) ∧ RecB a' r now (doL (S.th i).op l) (nextS S.p s (if (S.th i).late = true then 1 else 2))) ∨
       (Upd S i { S.th i with next := none, busy := false, over := true, ans := full_ } a' S.order (S.step i) ∧ (a'.slots.length : Int) = a'.room ∧ a'.slots.length < S.a.slots.length + (2 * hgt l + 2))) := by
  have hR : Upd S i { S.th i with next := none } (stepA S.a) S.order ((S.rest i).arena (stepA S.a)) := (Upd.rest S i).arena _
  rw [step_load hx hc]
  generalize (S.rest i).arena (stepA S.a) = R at hR ⊢
  have hth := hR.self hi
  obtain ⟨t, hbase, htr⟩ := RecB.base (S := R) (by rw [hR.a]; exact hb.ek (Ek.step _))
  obtain ⟨a', h1, h2, h3, h4, h5⟩ := made_tr (S := R) (i := i) (b := R.base (holds S.a r)) (l := l) (R.base (holds S.a r)).stat (by rw [hth]; exact hk) (by rw [hbase]; exact htr) hs hlen (by rw [hR.a]; exact hf)
  rw [hR.a] at h1 h3
  refine ⟨a', (Ek.step _).trans h1.ek, h2, (holds_ext h1 (a := stepA S.a) hc), h3, ?_⟩
  have e0 : R.applyI i (holds S.a r) (.down (fnd r) key .upd) = R.freeUpd i { fnd r with base := R.base (holds S.a r) } (R.base (holds S.a r)).stat := rfl
  rw [e0]
  unfold Ix.freeUpd
  simp only []
  have hp := hR.p
  rcases h5 with ⟨e1, e2, e3⟩ | ⟨e1, e2, e3⟩
  · rw [if_neg (by omega), h4]
    refine .inl ⟨(R.made i (R.base (holds S.a r)) (R.base (holds S.a r)).stat).1, ?_, ?_⟩
    · rw [e2, hth]
      simp only [hbase]
      exact (hR.arena a').next hi _
    · rw [hth] at e3
      rw [hbase] at e3
      simp only [hp] at e3
      simpa only [hbase] using e3
  · rw [if_pos (by omega), h4]
    exact .inr ⟨(hR.arena a').returns hi _, e2, by have := hR.a; have h6 : (stepA S.a).slots.length = S.a.slots.length := rfl; rw [hR.a, h6] at e3; exact e3⟩
/-- A get has found its base. -/
theorem step_get {S : Ix} {i : Nat} {r key : Int} {l : List Pr} {s : Int} (hi : i < S.ths.length) (hx : (S.th i).next = some (.load r (.down (fnd r) key (.looks key .gets)))) (hc : isCell (some S.a) r = true) (hb : RecB S.a r (holds S.a r) l s) (hs : Sorted l) :
    Upd S i { S.th i with next := none, busy := false, over := true, ans := hadL (S.th i).op l } (stepA S.a) (S.order ++ [(S.th i).call]) (S.step i) := by
  have hR : Upd S i { S.th i with next := none } (stepA S.a) S.order ((S.rest i).arena (stepA S.a)) := (Upd.rest S i).arena _
  rw [step_load hx hc]
  generalize (S.rest i).arena (stepA S.a) = R at hR ⊢
  have hth := hR.self hi
  obtain ⟨t, hbase, htr⟩ := RecB.base (S := R) (by rw [hR.a]; exact hb.ek (Ek.step _))
  have e0 : R.applyI i (holds S.a r) (.down (fnd r) key (.looks key .gets)) = R.tells i (had (R.th i).op.key (lgF (fuel (R.base (holds S.a r)).treap) (some R.a) (R.base (holds S.a r)).treap (R.th i).op.key).1 (lgF (fuel (R.base (holds S.a r)).treap) (some R.a) (R.base (holds S.a r)).treap (R.th i).op.key).2) := rfl
  rw [e0, hbase, lgF_tr htr hs _ _ (lt_fuel t), hth]
  unfold Ix.tells
  rw [hth]
  exact (hR.took _).returns hi _
/-- A join that finds no route above. -/
theorem step_joins {S : Ix} {i : Nat} {r key : Int} {b : BaseR} {a : AnsR} (hi : i < S.ths.length) (hx : (S.th i).next = some (.load r (.down (fnd r) key (.joins b (.ret a))))) (hc : isCell (some S.a) r = true) :
    Upd S i { S.th i with next := none, busy := false, over := true, ans := a } (stepA S.a) S.order (S.step i) := by
  have hR : Upd S i { S.th i with next := none } (stepA S.a) S.order ((S.rest i).arena (stepA S.a)) := (Upd.rest S i).arena _
  rw [step_load hx hc]
  exact hR.returns hi _
/-- An update's swap comes too late. -/
theorem step_late {S : Ix} {i : Nat} {r old now : Int} {a : AnsR} (hi : i < S.ths.length) (hx : (S.th i).next = some (.swap r old now (.upd now a))) (hc : isCell (some S.a) r = true) (hne : holds S.a r ≠ old) :
    Upd S i { S.th i with next := some (.load S.root (.down (fnd S.root) (S.th i).op.key .upd)), late := true } (stepA S.a) S.order (S.step i) := by
  have hR : Upd S i { S.th i with next := none } (stepA S.a) S.order ((S.rest i).arena (stepA S.a)) := (Upd.rest S i).arena _
  rw [step_swap hx hc, if_neg hne]
  generalize (S.rest i).arena (stepA S.a) = R at hR ⊢
  have e0 : R.applyW i false (.upd now a) = (R.late i).update i := rfl
  rw [e0]
  have hL : Upd S i { S.th i with next := none, late := true } (stepA S.a) S.order (R.late i) := hR.late hi
  unfold Ix.update Ix.find Ix.down
  have hth := hL.self hi
  rw [hth, hL.root]
  exact hL.next hi _
/-- An update takes effect. -/
theorem step_takes {S : Ix} {i : Nat} {r now : Int} {a : AnsR} {l : List Pr} {s : Int} (hi : i < S.ths.length) (hr : S.root = r) (hx : (S.th i).next = some (.swap r (holds S.a r) now (.upd now a))) (hc : isCell (some S.a) r = true) (hb : RecB S.a r now l s) (hl : l.length < 2) :
    (decideS S.p s = 2 ∧ ∃ b, Upd S i { S.th i with next := some (.load r (.down (fnd r) (S.th i).op.key (.joins b (.ret a)))) } (putA (stepA S.a) r now) (S.order ++ [(S.th i).call]) (S.step i)) ∨
    (decideS S.p s ≠ 2 ∧ Upd S i { S.th i with next := none, busy := false, over := true, ans := a } (putA (stepA S.a) r now) (S.order ++ [(S.th i).call]) (S.step i)) := by
  have hR : Upd S i { S.th i with next := none } (putA (stepA S.a) r now) S.order ((S.rest i).arena (putA (stepA S.a) r now)) := (Upd.rest S i).arena _
  rw [step_swap hx hc, if_pos rfl]
  generalize (S.rest i).arena (putA (stepA S.a) r now) = R at hR ⊢
  have e0 : R.applyW i true (.upd now a) = (R.took (R.th i).call).bend i ((R.took (R.th i).call).base now) ((R.took (R.th i).call).th i).op.key (.ret a) := rfl
  rw [e0]
  have hT := hR.took (R.th i).call
  have hcall : (R.th i).call = (S.th i).call := by rw [hR.self hi]
  rw [hcall] at hT ⊢
  generalize R.took (S.th i).call = T at hT ⊢
  have hth := hT.self hi
  obtain ⟨t, hbase, htr⟩ := RecB.base (S := T) (by rw [hT.a]; exact hb.ek ((Ek.step _).trans (Ek.put (by exact hc))))
  have hp := hT.p
  unfold Ix.bend
  rw [hbase, hp]
  simp only []
  by_cases d1 : decideS S.p s = 1
  · rw [if_pos d1]
    refine .inr ⟨by omega, ?_⟩
    unfold Ix.split
    simp only []
    rw [halfO_few htr (by omega) hl, if_pos (by show (3 : Int) ≠ 0; decide)]
    have hT2 := hT.arena T.a
    rw [hT.a] at hT2
    show Upd S i _ _ _ ((T.arena T.a).returns i a)
    rw [hT.a]
    exact hT2.returns hi a
  · rw [if_neg d1]
    by_cases d2 : decideS S.p s = 2
    · rw [if_pos d2]
      refine .inl ⟨d2, ⟨now, 3, t, s, r⟩, ?_⟩
      unfold Ix.joinsAt Ix.find Ix.down
      rw [hT.root, hr, hth]
      exact hT.next hi _
    · rw [if_neg d2]
      exact .inr ⟨d2, hT.returns hi _⟩
end Go.Proofs.YtghjnkfocjjlnaaGreat
end
section
namespace Go.Proofs.YtghjnkfocjjlnaaGreat
set_option maxRecDepth 100000
open Go.RowKit
set_option linter.unusedSimpArgs false
set_option linter.unusedVariables false
theorem newA_room {n : Int} (h0 : 0 ≤ n) (h1 : n ≤ 60000) : (newA n).room = n := by show min (max n 0) 60000 = n; omega
/-- Pairs that lay there before an arena was made. -/
theorem PK.begin {w w' : World} {ad : Option Addr} {c : Nat} {l : List Pr} (h : PIn w ad c l) (hb : Below w.heap.size w w') : PK w' (fun b => b = w.heap.size) ad c l :=
  ⟨h.later hb, fun hn x hx => by have := h.lt x hx hn; intro e; omega⟩
theorem PK.alloc {w : World} {F : Nat → Prop} {ad : Option Addr} {c : Nat} {l : List Pr} (h : PK w F ad c l) (o : Obj) : PK (w.alloc o) F ad c l := h.later ((Below.refl _ _).alloc (Nat.le_refl _) _)
/-- A treap that the law has made: where it lies, what it is. -/
structure Has (W w : World) (p : Nat) (a : Ar) (F : Nat → Prop) (t : Int) (l : List Pr) (room : Int) : Prop where
  st : St W w (some ⟨p, 0, none⟩) (some a) F
  tr : Tr a t l
  room : a.room = room
  used : a.slots.length = l.length
  steps : a.steps = 0
theorem Has.later {W w w' : World} {p : Nat} {a : Ar} {F : Nat → Prop} {t : Int} {l : List Pr} {room : Int} (h : Has W w p a F t l room) (hb : Below w.heap.size w w') : Has W w' p a F t l room := ⟨h.st.later hb, h.tr, h.room, h.used, h.steps⟩
end Go.Proofs.YtghjnkfocjjlnaaGreat
end
section
namespace Go.Proofs.YtghjnkfocjjlnaaGreat
set_option maxRecDepth 100000
open Go.RowKit Go.Proofs.YtghjnkfocjjlnaaGreat.Mix
set_option linter.unusedSimpArgs false
set_option linter.unusedVariables false
/-- Pairs gathered in a row of the call's own. -/
structure FRel (B : Nat) (wr : World) (v : Value) (out : List Pr) : Prop where
  own : wr.ownsRow B 43 2 v out.length (cellsP out)
  le : B ≤ wr.heap.size
theorem FRel.alloc {B : Nat} {wr : World} {v : Value} {out : List Pr} (h : FRel B wr v out) (o : Obj) : FRel B (wr.alloc o) v out :=
  ⟨h.own.alloc o, by have := h.le; simp; omega⟩
theorem FRel.start (W : World) : FRel W.heap.size W (.slice none 0 0) [] := ⟨World.ownsRow_nil _ _ _ _, Nat.le_refl _⟩
theorem FRel.gives {B : Nat} {wr : World} {v : Value} {out : List Pr} (h : FRel B wr v out) : ∃ ad c, v = .slice ad out.length c ∧ PIn wr ad c out ∧ (∀ x, ad = some x → B ≤ x.block) := by
  rcases h.own.2 with ⟨rfl, h2⟩ | ⟨g, cap, cur, rfl, hb, hg, hc, hm, _⟩
  · have : out = [] := List.eq_nil_of_length_eq_zero h2
    subst this
    exact ⟨none, 0, rfl, ⟨.inl rfl, Nat.le_refl _, by decide⟩, by simp⟩
  · refine ⟨_, cap, rfl, ⟨.inr ⟨g, 0, rfl, fun j hj => ?_⟩, hc, hm⟩, fun x hx => by obtain rfl := Option.some.inj hx; exact hb⟩
    obtain ⟨h1, h2⟩ := cellsP_at out j hj
    rw [Nat.zero_add, h.own.cellAt _ (by omega), h.own.cellAt _ (by omega)]
    exact ⟨h1, h2⟩
theorem wp_appr {P' : Array Oper} {rest : List Oper} {o : Oper} {a : Act} {Q : Exit → Act → World → Prop} {B : Nat} {w : World} {y : Pr} {v : Value} {out : List Pr} {g : Nat} (hgd : o.guard = none) (s x : Operand)
    (ho : o.op = .call { callee := .builtin .append, args := #[s, x], argTypes := #[28, 28] }) (hs : a.eval s = v) (hx : a.eval x = .slice (some ⟨g, 0, none⟩) 1 1) (R : FRel B w v out)
    (hg : w.heap[g]? = some (.cells #[.int .i64 y.1, .int .i64 y.2] 43 (0, 0))) (hlen : out.length ≤ 1000001)
    (h : ∀ v' w', FRel B w' v' (out ++ [y]) → w.grownBy w' v.ownBlock → wpList Tryz.prog P' Q rest (a.put o.dst v') w') :
    wpList Tryz.prog P' Q (o :: rest) a w := by
  obtain ⟨i0, hi, hz0, hz1, hz2⟩ := info_parts info_pair
  refine wpList_append_own w hgd s x 28 ho B 43 i0 (.agg #[.int .i64 0, .int .i64 0]) 2 16 Tryz.underlying28 hi hz0 hz1 hz2 rfl (by decide) v out.length (cellsP out) hs R.own ⟨g, 0, none⟩ 1 1 [.int .i64 y.1, .int .i64 y.2] hx rfl ?_ ?_ (by unfold maxLen; omega) (by omega) R.le ?_
  · intro j u hu
    have hadd : (⟨g, 0, none⟩ : Addr).add j = ⟨g, j, none⟩ := by unfold Addr.add; split <;> simp_all
    rw [hadd]
    exact cell_blk hg (by simpa using hu)
  · intro u hu
    simp at hu
    rcases hu with rfl | rfl <;> rfl
  · intro v' w' hown hgrow _
    refine h v' w' ⟨by rw [cellsP_snoc, List.length_append, List.length_singleton]; exact hown, Nat.le_trans R.le hgrow.size⟩ hgrow
theorem betw_len (lo hi : Int) (l : List Pr) : (betw lo hi l).length ≤ l.length := List.length_filter_le _ _
end Go.Proofs.YtghjnkfocjjlnaaGreat
end
