/- What a walk carries along: the index as it lies, and blocks of nobody as they were when the walk began. -/
/- Steps are laid: load, swap, down, find. -/
/- Steps are laid: update; calls end: returns, full. -/
import Derived.Test.YtghjnkfocjjlnaaGreatT00
import Derived.Test.YtghjnkfocjjlnaaGreatT09
set_option linter.unusedSimpArgs false
set_option linter.unusedVariables false
section
namespace Go.Proofs.YtghjnkfocjjlnaaGreat
set_option maxRecDepth 100000
open Go.RowKit
set_option linter.unusedVariables false
set_option linter.unusedSimpArgs false
structure Run (W : World) (P : Pl) (w0 : World) (own0 : Own) (S : Ix) (w : World) (own : Own) : Prop where
  is : IS W w P own S
  fk : FK w0 own0 w own
theorem Run.begin {W w : World} {P : Pl} {own : Own} {S : Ix} (h : IS W w P own S) : Run W P w own S w own := ⟨h, FK.refl _ _⟩
theorem IS.none_new {W w : World} {P : Pl} {own : Own} {S : Ix} (h : IS W w P own S) {b : Nat} (hb : w.heap.size ≤ b) : own b = none := by
  cases e : own b with
  | none => rfl
  | some o => have := (h.mine b o e).2; omega
theorem Run.box {W w0 w : World} {P : Pl} {own0 own : Own} {S : Ix} (h : Run W P w0 own0 S w own) {b : Nat} (hb : b = w.heap.size) {o : Ow} (ho : o ≠ .ar) (cs : Array Value) (t : TypeId) : Run W P w0 own0 S (w.alloc (.cells cs t)) (setO own b o) := by
  subst hb
  refine ⟨(h.is.alloc _).give (h.is.none_new (Nat.le_refl _)) h.is.below.size (by simp) ho, FK.give (h.fk.later ((Below.refl _ _).alloc (Nat.le_refl _) _)) h.fk.1 o⟩
theorem Run.box_keep {W w0 w : World} {P : Pl} {own0 own : Own} {S : Ix} (h : Run W P w0 own0 S w own) {b : Nat} (hb : b = w.heap.size) (o : Ow) (x : Obj) (i : Nat) : Keeps i w own (w.alloc x) (setO own b o) :=
  (h.is.keeps i ((Below.refl _ _).alloc (Nat.le_refl _) _)).trans (Keeps.give (h.is.none_new (by omega)) o)
theorem Run.box_bx {w : World} {own : Own} {b : Nat} (hb : b = w.heap.size) (cs : Array Value) (t : TypeId) : Bx (w.alloc (.cells cs t)) (setO own b .ro) b cs t := by
  subst hb; exact Bx.new (heap_alloc_new w _)
theorem Run.box_mx {w : World} {own : Own} {b : Nat} (hb : b = w.heap.size) (i : Nat) (cs : Array Value) (t : TypeId) : Mx (w.alloc (.cells cs t)) (setO own b (.mu i)) i b cs t := by
  subst hb; exact Mx.new (heap_alloc_new w _)
theorem Run.later {W w0 w w' : World} {P : Pl} {own0 own : Own} {S : Ix} (h : Run W P w0 own0 S w own) (hb : Below w.heap.size w w') : Run W P w0 own0 S w' own := ⟨h.is.later hb, h.fk.later hb⟩
theorem Run.made {W w0 w w' : World} {P : Pl} {own0 own : Own} {S : Ix} {a' : Ar} (h : Run W P w0 own0 S w own) (hm : Made (fun b => own b = some .ar) w (some ⟨P.pa, 0, none⟩) (some a') w') : ∃ own', Run W P w0 own0 (S.arena a') w' own' ∧ Kp2 w own w' own' := by
  obtain ⟨own', h1, h2⟩ := h.is.made hm
  exact ⟨own', ⟨h1, h.fk.trans h2.fk⟩, h2⟩
theorem Run.ends {W w0 w : World} {P : Pl} {own0 own : Own} {S : Ix} (h : Run W P w0 own0 S w own) : Ends W P w0 own0 S w := ⟨own, h.is, h.fk⟩
theorem Run.then_ {W w0 w w' : World} {P : Pl} {own0 own : Own} {S S' : Ix} (h : Run W P w0 own0 S w own) (e : Ends W P w own S' w') : Ends W P w0 own0 S' w' := by
  obtain ⟨own', h1, h2⟩ := e
  exact ⟨own', h1, h.fk.trans h2⟩
theorem Run.comp {W w0 w w' : World} {P : Pl} {own0 own own' : Own} {S S' : Ix} (h : Run W P w0 own0 S w own) (k : Run W P w own S' w' own') : Run W P w0 own0 S' w' own' := ⟨k.is, h.fk.trans k.fk⟩
theorem FK.set {w0 w : World} {own0 own : Own} (h : FK w0 own0 w own) {p k : Nat} (v : Value) (hp : own p ≠ none) : FK w0 own0 (w.setCell ⟨p, k, none⟩ v) own :=
  ⟨by simpa [World.setCell] using h.1, fun b hb hn => ⟨(h.2 b hb hn).1, (setCell_other v (by rintro rfl; exact hp (h.2 b hb hn).1)).trans (h.2 b hb hn).2⟩⟩
theorem IS.own_th {W w : World} {P : Pl} {own : Own} {S : Ix} (h : IS W w P own S) {i p : Nat} (hp : P.pts[i]? = some p) : own p = some .th := h.ownth p (List.mem_of_getElem? hp)
theorem Run.next {W w0 w : World} {P : Pl} {own0 own : Own} {S : Ix} (h : Run W P w0 own0 S w own) {i p : Nat} (hp : P.pts[i]? = some p) {n : Nx} {nv : Value} (hr : RepN w own i p nv (some n)) : Run W P w0 own0 (S.next i n) (w.setCell ⟨p, 8, none⟩ nv) own :=
  ⟨h.is.next hp hr, h.fk.set _ (by rw [h.is.own_th hp]; simp)⟩
theorem Run.late {W w0 w : World} {P : Pl} {own0 own : Own} {S : Ix} (h : Run W P w0 own0 S w own) {i p : Nat} (hp : P.pts[i]? = some p) : Run W P w0 own0 (S.late i) (w.setCell ⟨p, 7, none⟩ (.bool true)) own :=
  ⟨h.is.late hp, h.fk.set _ (by rw [h.is.own_th hp]; simp)⟩
theorem IS.keeps_set {W w : World} {P : Pl} {own : Own} {S : Ix} (h : IS W w P own S) {i p : Nat} (hp : P.pts[i]? = some p) (j k : Nat) (v : Value) : Keeps j w own (w.setCell ⟨p, k, none⟩ v) own := fun b hb =>
  ⟨rfl, setCell_other v (by rintro rfl; rw [h.own_th hp] at hb; simp at hb)⟩
theorem Run.drew {W w0 w : World} {P : Pl} {own0 own : Own} {S : Ix} (h : Run W P w0 own0 S w own) : Run W P w0 own0 S w.drew own := h.later (w' := w.drew) ⟨rfl, rfl, rfl, Nat.le_refl _, fun _ _ => rfl⟩
/-- A local block, of nobody. -/
theorem Run.alloc {W w0 w : World} {P : Pl} {own0 own : Own} {S : Ix} (h : Run W P w0 own0 S w own) (o : Obj) : Run W P w0 own0 S (w.alloc o) own := h.later ((Below.refl _ _).alloc (Nat.le_refl _) _)
/-- A block of nobody. -/
def Fx (w : World) (own : Own) (b : Nat) (cs : Array Value) (t : TypeId) : Prop := own b = none ∧ w.heap[b]? = some (.cells cs t (0, 0))
theorem Fx.lt {w : World} {own : Own} {b : Nat} {cs : Array Value} {t : TypeId} (h : Fx w own b cs t) : b < w.heap.size := (Array.getElem?_eq_some_iff.1 h.2).1
theorem Fx.keep {w w' : World} {own own' : Own} {b : Nat} {cs : Array Value} {t : TypeId} (h : Fx w own b cs t) (k : FK w own w' own') : Fx w' own' b cs t :=
  ⟨(k.2 b h.lt h.1).1, ((k.2 b h.lt h.1).2).trans h.2⟩
/-- What a walk of thread i leans on is as it was. -/
structure KA (i : Nat) (w : World) (own : Own) (w' : World) (own' : Own) : Prop where
  k : Keeps i w own w' own'
  f : FK w own w' own'
theorem KA.trans {i : Nat} {w1 w2 w3 : World} {o1 o2 o3 : Own} (h : KA i w1 o1 w2 o2) (k : KA i w2 o2 w3 o3) : KA i w1 o1 w3 o3 := ⟨h.k.trans k.k, h.f.trans k.f⟩
theorem Run.box_ka {W w0 w : World} {P : Pl} {own0 own : Own} {S : Ix} (h : Run W P w0 own0 S w own) {b : Nat} (hb : b = w.heap.size) (o : Ow) (x : Obj) (i : Nat) : KA i w own (w.alloc x) (setO own b o) :=
  ⟨h.box_keep hb o x i, FK.give ((FK.refl w own).later ((Below.refl _ _).alloc (Nat.le_refl _) _)) (by omega) o⟩
theorem Run.below_ka {W w0 w w' : World} {P : Pl} {own0 own : Own} {S : Ix} (h : Run W P w0 own0 S w own) (hb : Below w.heap.size w w') (i : Nat) : KA i w own w' own := ⟨h.is.keeps i hb, (FK.refl w own).later hb⟩
theorem Run.alloc_ka {W w0 w : World} {P : Pl} {own0 own : Own} {S : Ix} (h : Run W P w0 own0 S w own) (o : Obj) (i : Nat) : KA i w own (w.alloc o) own := h.below_ka ((Below.refl _ _).alloc (Nat.le_refl _) _) i
theorem Run.alloc_fx {W w0 w : World} {P : Pl} {own0 own : Own} {S : Ix} (h : Run W P w0 own0 S w own) {b : Nat} (hb : b = w.heap.size) (cs : Array Value) (t : TypeId) : Fx (w.alloc (.cells cs t)) own b cs t := by
  subst hb; exact ⟨h.is.none_new (Nat.le_refl _), heap_alloc_new w _⟩
theorem Run.kp_ka {W w0 w w' : World} {P : Pl} {own0 own own' : Own} {S : Ix} (h : Run W P w0 own0 S w own) (k : Kp2 w own w' own') (i : Nat) : KA i w own w' own' := ⟨k.keeps (fun b o ho => (h.is.mine b o ho).2) i, k.fk⟩
theorem Run.set_ka {W w0 w : World} {P : Pl} {own0 own : Own} {S : Ix} (h : Run W P w0 own0 S w own) {j p : Nat} (hp : P.pts[j]? = some p) (k : Nat) (v : Value) (i : Nat) : KA i w own (w.setCell ⟨p, k, none⟩ v) own :=
  ⟨h.is.keeps_set hp i k v, (FK.refl w own).set _ (by rw [h.is.own_th hp]; simp)⟩
/-- The arena turns: whatever it is then, there is one. -/
theorem Run.madeO {W w0 w w' : World} {P : Pl} {own0 own : Own} {S : Ix} {A' : OA} (h : Run W P w0 own0 S w own) (hm : Made (fun b => own b = some .ar) w (some ⟨P.pa, 0, none⟩) A' w') (i : Nat) : ∃ own', Run W P w0 own0 (S.ofA A') w' own' ∧ KA i w own w' own' := by
  have hs : ∃ a', A' = some a' := by
    obtain ⟨F', o', _⟩ := Made.out hm
    rcases o' with ⟨_, h2, _⟩ | ⟨a, p, sv, row, h1, _⟩
    · cases h2
    · exact ⟨a, h1⟩
  obtain ⟨a', rfl⟩ := hs
  obtain ⟨own', h1, h2⟩ := h.made hm
  exact ⟨own', h1, h.kp_ka h2 i⟩
theorem Run.drew_ka {W w0 w : World} {P : Pl} {own0 own : Own} {S : Ix} (h : Run W P w0 own0 S w own) (i : Nat) : KA i w own w.drew own := h.below_ka (w' := w.drew) ⟨rfl, rfl, rfl, Nat.le_refl _, fun _ _ => rfl⟩ i
theorem IS.thc {W w : World} {P : Pl} {own : Own} {S : Ix} (h : IS W w P own S) {i p : Nat} (hp : P.pts[i]? = some p) {k : Nat} {v : Value} (hv : ∀ nv pv, (thC P.px (S.th i) nv pv)[k]? = some v) : w.cell? ⟨p, k, none⟩ = some v := by
  obtain ⟨nv, pv, ht⟩ := h.ths i p hp; exact cell_blk ht.blk (hv nv pv)
theorem IS.ixc {W w : World} {P : Pl} {own : Own} {S : Ix} (h : IS W w P own S) {k : Nat} {v : Value} (hv : ∀ tv ov, (ixC P.pa S tv ov)[k]? = some v) : w.cell? ⟨P.px, k, none⟩ = some v := by
  obtain ⟨tv, ov, hx⟩ := h.ix; exact cell_blk hx.blk (hv tv ov)
theorem KA.set {i : Nat} {w : World} {own : Own} {p : Nat} {o : Ow} (ho : own p = some o) (hn : o = .th ∨ o = .ix) (k : Nat) (v : Value) : KA i w own (w.setCell ⟨p, k, none⟩ v) own :=
  ⟨fun b hb => ⟨rfl, setCell_other v (by rintro rfl; rw [ho] at hb; rcases hn with rfl | rfl <;> simp at hb)⟩, (FK.refl w own).set _ (by rw [ho]; simp)⟩
theorem PV.slice {w : World} {own : Own} {v : Value} {l : List Pr} (h : PV w own v l) : ∃ ad n c, v = .slice ad n c := by
  rcases h.1.2 with ⟨rfl, _⟩ | ⟨g, cap, cur, rfl, _⟩
  · exact ⟨_, _, _, rfl⟩
  · exact ⟨_, _, _, rfl⟩
theorem PV.nil (w : World) (own : Own) : PV w own (.slice none 0 0) [] := ⟨World.ownsRow_nil _ _ _ _, by simp [Value.ownBlock]⟩
/-- A call is over: what is written then. -/
def retW (w : World) (p : Nat) (a : AnsR) (pv : Value) : World :=
  (((((((w.setCell ⟨p, 1, none⟩ (.bool false)).setCell ⟨p, 9, none⟩ (.bool true)).setCell ⟨p, 10, none⟩ (.int .i64 a.err)).setCell ⟨p, 11, none⟩ (.bool a.ok)).setCell ⟨p, 12, none⟩ (.int .i64 a.key)).setCell ⟨p, 13, none⟩ (.int .i64 a.val)).setCell ⟨p, 14, none⟩ (.int .i64 a.n)).setCell ⟨p, 15, none⟩ pv
theorem retW_other {w : World} {p b : Nat} (a : AnsR) (pv : Value) (h : b ≠ p) : (retW w p a pv).heap[b]? = w.heap[b]? := by
  unfold retW; simp only [setCell_other _ h]
theorem Run.returns {W w0 w : World} {P : Pl} {own0 own : Own} {S : Ix} (h : Run W P w0 own0 S w own) {i p : Nat} (hp : P.pts[i]? = some p) {a : AnsR} {pv : Value} (hps : PV w own pv a.pairs) : Run W P w0 own0 (S.returns i a) (retW w p a pv) own := by
  have ho := h.is.own_th hp
  obtain ⟨nv, pv0, ht⟩ := h.is.ths i p hp
  have hb : Below W.heap.size W (retW w p a pv) := (((((((h.is.below.setCell (h.is.mine p _ ho).1 _).setCell (h.is.mine p _ ho).1 _).setCell (h.is.mine p _ ho).1 _).setCell (h.is.mine p _ ho).1 _).setCell (h.is.mine p _ ho).1 _).setCell (h.is.mine p _ ho).1 _).setCell (h.is.mine p _ ho).1 _).setCell (h.is.mine p _ ho).1 _
  have hs : (retW w p a pv).heap.size = w.heap.size := by simp [retW, World.setCell]
  refine ⟨h.is.thread hp _ nv pv ?_ ht.rep hps hb hs (fun b hb => retW_other a pv hb), ?_⟩
  · unfold retW
    have e1 := heap_setCell_same w p 1 _ _ (.bool false) ht.blk
    simp only [thC, sqA, sqZ, sqS] at e1
    have e2 := heap_setCell_same _ p 9 _ _ (.bool true) e1
    simp only [thC, sqA, sqZ, sqS] at e2
    have e3 := heap_setCell_same _ p 10 _ _ (.int .i64 a.err) e2
    simp only [thC, sqA, sqZ, sqS] at e3
    have e4 := heap_setCell_same _ p 11 _ _ (.bool a.ok) e3
    simp only [thC, sqA, sqZ, sqS] at e4
    have e5 := heap_setCell_same _ p 12 _ _ (.int .i64 a.key) e4
    simp only [thC, sqA, sqZ, sqS] at e5
    have e6 := heap_setCell_same _ p 13 _ _ (.int .i64 a.val) e5
    simp only [thC, sqA, sqZ, sqS] at e6
    have e7 := heap_setCell_same _ p 14 _ _ (.int .i64 a.n) e6
    simp only [thC, sqA, sqZ, sqS] at e7
    have e8 := heap_setCell_same _ p 15 _ _ pv e7
    simp only [thC, sqA, sqZ, sqS] at e8
    rw [e8]; rfl
  · exact ⟨by rw [hs]; exact h.fk.1, fun b hb hn => ⟨(h.fk.2 b hb hn).1, (retW_other a pv (fun e => by have h1 := (h.fk.2 b hb hn).1; rw [e, ho] at h1; cases h1)).trans (h.fk.2 b hb hn).2⟩⟩
/-- Stores into a block of nobody, younger than the walk. -/
theorem KA.setF {i : Nat} {w0 w : World} {own0 own : Own} (h : KA i w0 own0 w own) {b : Nat} (hn : own b = none) (hb : w0.heap.size ≤ b) (k : Nat) (v : Value) : KA i w0 own0 (w.setCell ⟨b, k, none⟩ v) own :=
  ⟨fun x hx => by
    obtain ⟨h1, h2⟩ := h.k x hx
    exact ⟨h1, (setCell_other v (by rintro rfl; rw [h1] at hn; rw [hn] at hx; simp at hx)).trans h2⟩,
   by simpa [World.setCell] using h.f.1, fun x hx ho => ⟨(h.f.2 x hx ho).1, (setCell_other v (by omega)).trans (h.f.2 x hx ho).2⟩⟩
theorem Run.setF {W w0 w : World} {P : Pl} {own0 own : Own} {S : Ix} (h : Run W P w0 own0 S w own) {b : Nat} (hn : own b = none) (hb : w0.heap.size ≤ b) (hW : W.heap.size ≤ b) (k : Nat) (v : Value) : Run W P w0 own0 S (w.setCell ⟨b, k, none⟩ v) own :=
  ⟨h.is.free (h.is.below.setCell hW v) (by simp [World.setCell]) (fun x o ho => setCell_other v (by rintro rfl; rw [ho] at hn; cases hn)),
   by simpa [World.setCell] using h.fk.1, fun x hx ho => ⟨(h.fk.2 x hx ho).1, (setCell_other v (by omega)).trans (h.fk.2 x hx ho).2⟩⟩
theorem Run.set6 {W w0 w : World} {P : Pl} {own0 own : Own} {S : Ix} (h : Run W P w0 own0 S w own) {b : Nat} (hn : own b = none) (hb : w0.heap.size ≤ b) (hW : W.heap.size ≤ b) (v0 v1 v2 v3 v4 v5 : Value) : Run W P w0 own0 S (set6 w b v0 v1 v2 v3 v4 v5) own :=
  (((((h.setF hn hb hW 0 v0).setF hn hb hW 1 v1).setF hn hb hW 2 v2).setF hn hb hW 3 v3).setF hn hb hW 4 v4).setF hn hb hW 5 v5
theorem KA.set6 {i : Nat} {w0 w : World} {own0 own : Own} (h : KA i w0 own0 w own) {b : Nat} (hn : own b = none) (hb : w0.heap.size ≤ b) (v0 v1 v2 v3 v4 v5 : Value) : KA i w0 own0 (Go.Proofs.YtghjnkfocjjlnaaGreat.set6 w b v0 v1 v2 v3 v4 v5) own :=
  (((((h.setF hn hb 0 v0).setF hn hb 1 v1).setF hn hb 2 v2).setF hn hb 3 v3).setF hn hb 4 v4).setF hn hb 5 v5
end Go.Proofs.YtghjnkfocjjlnaaGreat
end
section
namespace Go.Proofs.YtghjnkfocjjlnaaGreat
set_option maxRecDepth 100000
open Go.RowKit Go.Proofs.YtghjnkfocjjlnaaGreatW.PrintWords Go.Proofs.YtghjnkfocjjlnaaGreatW.PrintLast
set_option linter.unusedVariables false
set_option linter.unusedSimpArgs false
set_option maxRecDepth 100000 in
set_option maxHeartbeats 4000000 in
theorem xload_any {W w : World} {P : Pl} {own : Own} {S : Ix} (h : IS W w P own S) {i p : Nat} (hp : P.pts[i]? = some p) {cell : Int} {k : KI} {v : Value} (hk : RepI w own i p v k) :
    Calls Tryz.prog 119 #[pt_ p, .int .i64 cell, v] w fun e w' => e = .returned (.tuple #[]) ∧ Ends W P w own (S.load i cell k) w' := by
  obtain ⟨vf, vfi, vca, rfl⟩ := hk.fn
  have R0 := Lib.hid (Run.begin h)
  clear h
  have HV := Lib.hid hk
  clear hk
  have R1 := Lib.hid (R0.out.box (b := w.heap.size) rfl (o := .ro) (by simp) #[pt_ p] 90)
  have K1 := Lib.hid (R0.out.box_ka (b := w.heap.size) rfl (.ro) (.cells #[pt_ p] 90) i)
  have R2 := Lib.hid (R1.out.box (b := w.heap.size + 1) (by simp) (o := .ro) (by simp) #[.int .i64 cell] 3)
  have K2 := Lib.hid (R1.out.box_ka (b := w.heap.size + 1) (by simp) (.ro) (.cells #[.int .i64 cell] 3) i)
  have R3 := Lib.hid (R2.out.box (b := w.heap.size + 1 + 1) (by simp) (o := .ro) (by simp) #[.func (.func vf) vfi vca] 143)
  have K3 := Lib.hid (R2.out.box_ka (b := w.heap.size + 1 + 1) (by simp) (.ro) (.cells #[.func (.func vf) vfi vca] 143) i)
  have ft8 := R3.out.is.th_free hp 8
  obtain ⟨nv_, cv_⟩ := R3.out.is.th_next hp
  go_enter Tryz.func119, Tryz.ntmps119
  go_wp2_with fail
  go_end0
  exact ⟨rfl, (R3.out.next hp (n := .load cell k) ⟨_, _, _, _, rfl, (Run.box_bx (b := w.heap.size + 1 + 1) (by simp) _ _), (((Run.box_bx (b := w.heap.size) rfl _ _).keep K2.out.k).keep K3.out.k), ((Run.box_bx (b := w.heap.size + 1) (by simp) _ _).keep K3.out.k), ((((HV.out).keep K1.out.k).keep K2.out.k).keep K3.out.k)⟩).ends⟩
set_option maxRecDepth 100000 in
set_option maxHeartbeats 4000000 in
theorem xswap_any {W w : World} {P : Pl} {own : Own} {S : Ix} (h : IS W w P own S) {i p : Nat} (hp : P.pts[i]? = some p) {cell old now : Int} {k : KW} {v : Value} (hk : RepW w own i p v k) :
    Calls Tryz.prog 80 #[pt_ p, .int .i64 cell, .int .i64 old, .int .i64 now, v] w fun e w' => e = .returned (.tuple #[]) ∧ Ends W P w own (S.swap i cell old now k) w' := by
  obtain ⟨vf, vfi, vca, rfl⟩ := hk.fn
  have R0 := Lib.hid (Run.begin h)
  clear h
  have HV := Lib.hid hk
  clear hk
  have R1 := Lib.hid (R0.out.box (b := w.heap.size) rfl (o := .ro) (by simp) #[pt_ p] 90)
  have K1 := Lib.hid (R0.out.box_ka (b := w.heap.size) rfl (.ro) (.cells #[pt_ p] 90) i)
  have R2 := Lib.hid (R1.out.box (b := w.heap.size + 1) (by simp) (o := .ro) (by simp) #[.int .i64 cell] 3)
  have K2 := Lib.hid (R1.out.box_ka (b := w.heap.size + 1) (by simp) (.ro) (.cells #[.int .i64 cell] 3) i)
  have R3 := Lib.hid (R2.out.box (b := w.heap.size + 1 + 1) (by simp) (o := .ro) (by simp) #[.int .i64 old] 3)
  have K3 := Lib.hid (R2.out.box_ka (b := w.heap.size + 1 + 1) (by simp) (.ro) (.cells #[.int .i64 old] 3) i)
  have R4 := Lib.hid (R3.out.box (b := w.heap.size + 1 + 1 + 1) (by simp) (o := .ro) (by simp) #[.int .i64 now] 3)
  have K4 := Lib.hid (R3.out.box_ka (b := w.heap.size + 1 + 1 + 1) (by simp) (.ro) (.cells #[.int .i64 now] 3) i)
  have R5 := Lib.hid (R4.out.box (b := w.heap.size + 1 + 1 + 1 + 1) (by simp) (o := .ro) (by simp) #[.func (.func vf) vfi vca] 146)
  have K5 := Lib.hid (R4.out.box_ka (b := w.heap.size + 1 + 1 + 1 + 1) (by simp) (.ro) (.cells #[.func (.func vf) vfi vca] 146) i)
  have ft8 := R5.out.is.th_free hp 8
  obtain ⟨nv_, cv_⟩ := R5.out.is.th_next hp
  go_enter Tryz.func80, Tryz.ntmps80
  go_wp2_with fail
  go_end0
  exact ⟨rfl, (R5.out.next hp (n := .swap cell old now k) ⟨_, _, _, _, _, _, rfl, (Run.box_bx (b := w.heap.size + 1 + 1 + 1 + 1) (by simp) _ _), (((((Run.box_bx (b := w.heap.size) rfl _ _).keep K2.out.k).keep K3.out.k).keep K4.out.k).keep K5.out.k), ((((Run.box_bx (b := w.heap.size + 1) (by simp) _ _).keep K3.out.k).keep K4.out.k).keep K5.out.k), (((Run.box_bx (b := w.heap.size + 1 + 1) (by simp) _ _).keep K4.out.k).keep K5.out.k), ((Run.box_bx (b := w.heap.size + 1 + 1 + 1) (by simp) _ _).keep K5.out.k), ((((((HV.out).keep K1.out.k).keep K2.out.k).keep K3.out.k).keep K4.out.k).keep K5.out.k)⟩).ends⟩
set_option maxRecDepth 100000 in
set_option maxHeartbeats 4000000 in
theorem xdown_any {W w : World} {P : Pl} {own : Own} {S : Ix} (h : IS W w P own S) {i p : Nat} (hp : P.pts[i]? = some p) {f : FoundR} {key : Int} {k : KF} {v : Value} (hk : RepF w own p v k) :
    Calls Tryz.prog 118 #[pt_ p, .agg #[.int .i64 f.base.id, .int .i64 f.base.kind, .int .i64 f.base.treap, .int .i64 f.base.stat, .int .i64 f.base.home, .int .i64 f.cell, .int .i64 f.up, .int .i64 f.most, .bool f.isMost], .int .i64 key, v] w fun e w' => e = .returned (.tuple #[]) ∧ Ends W P w own (S.down i f key k) w' := by
  obtain ⟨vf, vfi, vca, rfl⟩ := hk.fn
  have R0 := Lib.hid (Run.begin h)
  clear h
  have HV := Lib.hid hk
  clear hk
  have R1 := Lib.hid (R0.out.box (b := w.heap.size) rfl (o := .ro) (by simp) #[pt_ p] 90)
  have K1 := Lib.hid (R0.out.box_ka (b := w.heap.size) rfl (.ro) (.cells #[pt_ p] 90) i)
  have R2 := Lib.hid (R1.out.box (b := w.heap.size + 1) (by simp) (o := .mu i) (by simp) #[.int .i64 f.base.id, .int .i64 f.base.kind, .int .i64 f.base.treap, .int .i64 f.base.stat, .int .i64 f.base.home, .int .i64 f.cell, .int .i64 f.up, .int .i64 f.most, .bool f.isMost] 137)
  have K2 := Lib.hid (R1.out.box_ka (b := w.heap.size + 1) (by simp) (.mu i) (.cells #[.int .i64 f.base.id, .int .i64 f.base.kind, .int .i64 f.base.treap, .int .i64 f.base.stat, .int .i64 f.base.home, .int .i64 f.cell, .int .i64 f.up, .int .i64 f.most, .bool f.isMost] 137) i)
  have R3 := Lib.hid (R2.out.box (b := w.heap.size + 1 + 1) (by simp) (o := .ro) (by simp) #[.int .i64 key] 3)
  have K3 := Lib.hid (R2.out.box_ka (b := w.heap.size + 1 + 1) (by simp) (.ro) (.cells #[.int .i64 key] 3) i)
  have R4 := Lib.hid (R3.out.box (b := w.heap.size + 1 + 1 + 1) (by simp) (o := .ro) (by simp) #[.func (.func vf) vfi vca] 117)
  have K4 := Lib.hid (R3.out.box_ka (b := w.heap.size + 1 + 1 + 1) (by simp) (.ro) (.cells #[.func (.func vf) vfi vca] 117) i)
  go_enter Tryz.func118, Tryz.ntmps118
  go_wp2_with fail
  refine (xload_any R4.out.is hp (k := .down f key k) ⟨_, _, _, _, _, rfl, ((((Run.box_bx (b := w.heap.size) rfl _ _).keep K2.out.k).keep K3.out.k).keep K4.out.k), (((Run.box_mx (b := w.heap.size + 1) (by simp) _ _ _).keep K3.out.k).keep K4.out.k), (Run.box_bx (b := w.heap.size + 1 + 1 + 1) (by simp) _ _), ((Run.box_bx (b := w.heap.size + 1 + 1) (by simp) _ _).keep K4.out.k), (((((HV.out).keep K1.out.k).keep K2.out.k).keep K3.out.k).keep K4.out.k)⟩).mono ?_
  rintro e w5 ⟨rfl, e5⟩
  go_wp2_with fail
  go_end0
  exact ⟨rfl, R4.out.then_ e5⟩
set_option maxRecDepth 100000 in
set_option maxHeartbeats 4000000 in
theorem xfind_any {W w : World} {P : Pl} {own : Own} {S : Ix} (h : IS W w P own S) {i p : Nat} (hp : P.pts[i]? = some p) {key : Int} {k : KF} {v : Value} (hk : RepF w own p v k) :
    Calls Tryz.prog 73 #[pt_ p, .int .i64 key, v] w fun e w' => e = .returned (.tuple #[]) ∧ Ends W P w own (S.find i key k) w' := by
  obtain ⟨vf, vfi, vca, rfl⟩ := hk.fn
  have R0 := Lib.hid (Run.begin h)
  clear h
  have HV := Lib.hid hk
  clear hk
  have ct0 := R0.out.is.thx hp
  have cx6 := R0.out.is.ixc (k := 6) (fun _ _ => rfl)
  go_enter Tryz.func73, Tryz.ntmps73
  go_wp2_with fail
  refine (xdown_any R0.out.is hp (f := ⟨base0, S.root, 0, 0, false⟩) (key := key) (HV.out)).mono ?_
  rintro e w1 ⟨rfl, e1⟩
  clear ct0 cx6
  go_wp2_with fail
  go_end0
  exact ⟨rfl, R0.out.then_ e1⟩
set_option maxRecDepth 100000 in
set_option maxHeartbeats 4000000 in
theorem xlooks_any {W w : World} {P : Pl} {own : Own} {S : Ix} (h : IS W w P own S) {i p : Nat} (hp : P.pts[i]? = some p) {key : Int} {k : K0} {v : Value} (hk : Rep0 w own p v k) :
    Calls Tryz.prog 54 #[pt_ p, .int .i64 key, v] w fun e w' => e = .returned (.tuple #[]) ∧ Ends W P w own (S.looks i key k) w' := by
  obtain ⟨vf, vfi, vca, rfl⟩ := hk.fn
  have R0 := Lib.hid (Run.begin h)
  clear h
  have HV := Lib.hid hk
  clear hk
  have R1 := Lib.hid (R0.out.box (b := w.heap.size) rfl (o := .ro) (by simp) #[pt_ p] 90)
  have K1 := Lib.hid (R0.out.box_ka (b := w.heap.size) rfl (.ro) (.cells #[pt_ p] 90) i)
  have R2 := Lib.hid (R1.out.box (b := w.heap.size + 1) (by simp) (o := .ro) (by simp) #[.int .i64 key] 3)
  have K2 := Lib.hid (R1.out.box_ka (b := w.heap.size + 1) (by simp) (.ro) (.cells #[.int .i64 key] 3) i)
  have R3 := Lib.hid (R2.out.box (b := w.heap.size + 1 + 1) (by simp) (o := .ro) (by simp) #[.func (.func vf) vfi vca] 117)
  have K3 := Lib.hid (R2.out.box_ka (b := w.heap.size + 1 + 1) (by simp) (.ro) (.cells #[.func (.func vf) vfi vca] 117) i)
  have R4 := Lib.hid (R3.out.box (b := w.heap.size + 1 + 1 + 1) (by simp) (o := .ro) (by simp) #[.func (.func 87) #[] #[pt_ (w.heap.size), pt_ (w.heap.size + 1), pt_ (w.heap.size + 1 + 1)]] 1)
  have K4 := Lib.hid (R3.out.box_ka (b := w.heap.size + 1 + 1 + 1) (by simp) (.ro) (.cells #[.func (.func 87) #[] #[pt_ (w.heap.size), pt_ (w.heap.size + 1), pt_ (w.heap.size + 1 + 1)]] 1) i)
  go_enter Tryz.func54, Tryz.ntmps54
  go_wp2_with fail
  refine (xfind_any R4.out.is hp (key := key) (k := .looks key k) ⟨_, _, _, _, _, rfl, ((((Run.box_bx (b := w.heap.size) rfl _ _).keep K2.out.k).keep K3.out.k).keep K4.out.k), (Run.box_bx (b := w.heap.size + 1 + 1 + 1) (by simp) _ _), ((Run.box_bx (b := w.heap.size + 1 + 1) (by simp) _ _).keep K4.out.k), ⟨_, _, _, _, rfl, ((((Run.box_bx (b := w.heap.size) rfl _ _).keep K2.out.k).keep K3.out.k).keep K4.out.k), (((Run.box_bx (b := w.heap.size + 1) (by simp) _ _).keep K3.out.k).keep K4.out.k), ((Run.box_bx (b := w.heap.size + 1 + 1) (by simp) _ _).keep K4.out.k), (((((HV.out).keep K1.out.k).keep K2.out.k).keep K3.out.k).keep K4.out.k)⟩, (((((HV.out).keep K1.out.k).keep K2.out.k).keep K3.out.k).keep K4.out.k)⟩).mono ?_
  rintro e w5 ⟨rfl, e5⟩
  go_wp2_with fail
  go_end0
  exact ⟨rfl, R4.out.then_ e5⟩
set_option maxRecDepth 100000 in
set_option maxHeartbeats 4000000 in
theorem xjoins_any {W w : World} {P : Pl} {own : Own} {S : Ix} (h : IS W w P own S) {i p : Nat} (hp : P.pts[i]? = some p) {b : BaseR} {key : Int} {k : KU} {v : Value} (hk : RepU w own p v k) :
    Calls Tryz.prog 135 #[pt_ p, .agg #[.int .i64 b.id, .int .i64 b.kind, .int .i64 b.treap, .int .i64 b.stat, .int .i64 b.home], .int .i64 key, v] w fun e w' => e = .returned (.tuple #[]) ∧ Ends W P w own (S.joinsAt i b key k) w' := by
  obtain ⟨vf, vfi, vca, rfl⟩ := hk.fn
  have R0 := Lib.hid (Run.begin h)
  clear h
  have HV := Lib.hid hk
  clear hk
  have R1 := Lib.hid (R0.out.box (b := w.heap.size) rfl (o := .ro) (by simp) #[pt_ p] 90)
  have K1 := Lib.hid (R0.out.box_ka (b := w.heap.size) rfl (.ro) (.cells #[pt_ p] 90) i)
  have R2 := Lib.hid (R1.out.box (b := w.heap.size + 1) (by simp) (o := .ro) (by simp) #[.int .i64 b.id, .int .i64 b.kind, .int .i64 b.treap, .int .i64 b.stat, .int .i64 b.home] 120)
  have K2 := Lib.hid (R1.out.box_ka (b := w.heap.size + 1) (by simp) (.ro) (.cells #[.int .i64 b.id, .int .i64 b.kind, .int .i64 b.treap, .int .i64 b.stat, .int .i64 b.home] 120) i)
  have R3 := Lib.hid (R2.out.box (b := w.heap.size + 1 + 1) (by simp) (o := .ro) (by simp) #[.func (.func vf) vfi vca] 1)
  have K3 := Lib.hid (R2.out.box_ka (b := w.heap.size + 1 + 1) (by simp) (.ro) (.cells #[.func (.func vf) vfi vca] 1) i)
  go_enter Tryz.func135, Tryz.ntmps135
  go_wp2_with fail
  refine (xfind_any R3.out.is hp (key := key) (k := .joins b k) ⟨_, _, _, _, rfl, ((Run.box_bx (b := w.heap.size + 1) (by simp) _ _).keep K3.out.k), (Run.box_bx (b := w.heap.size + 1 + 1) (by simp) _ _), (((Run.box_bx (b := w.heap.size) rfl _ _).keep K2.out.k).keep K3.out.k), ((((HV.out).keep K1.out.k).keep K2.out.k).keep K3.out.k)⟩).mono ?_
  rintro e w4 ⟨rfl, e4⟩
  go_wp2_with fail
  go_end0
  exact ⟨rfl, R3.out.then_ e4⟩
end Go.Proofs.YtghjnkfocjjlnaaGreat
end
section
namespace Go.Proofs.YtghjnkfocjjlnaaGreat
set_option maxRecDepth 100000
open Go.RowKit Go.Proofs.YtghjnkfocjjlnaaGreatW.PrintWords Go.Proofs.YtghjnkfocjjlnaaGreatW.PrintLast
set_option linter.unusedVariables false
set_option linter.unusedSimpArgs false
set_option maxRecDepth 100000 in
set_option maxHeartbeats 4000000 in
theorem xupdate_any {W w : World} {P : Pl} {own : Own} {S : Ix} (h : IS W w P own S) {i p : Nat} (hp : P.pts[i]? = some p) :
    Calls Tryz.prog 53 #[pt_ p] w fun e w' => e = .returned (.tuple #[]) ∧ Ends W P w own (S.update i) w' := by
  have R0 := Lib.hid (Run.begin h)
  clear h
  have R1 := Lib.hid (R0.out.box (b := w.heap.size) rfl (o := .ro) (by simp) #[pt_ p] 90)
  have K1 := Lib.hid (R0.out.box_ka (b := w.heap.size) rfl (.ro) (.cells #[pt_ p] 90) i)
  go_enter Tryz.func53, Tryz.ntmps53
  go_wp2_with fail
  have R2 := Lib.hid R1.out.drew
  have K2 := Lib.hid (R1.out.drew_ka i)
  have CT := Lib.hid (xfind_any R2.out.is hp (key := (S.th i).op.key) (k := .upd) (v := .func (.func 74) #[] #[pt_ w.heap.size]) ⟨_, rfl, ((Run.box_bx (b := w.heap.size) rfl _ _).keep K2.out.k)⟩)
  refine start_ (n := 8) (S := fun w' => w'.cell? ⟨w.heap.size, 0, none⟩ = some (pt_ p) ∧ w'.cell? ⟨p, 3, none⟩ = some (.int .i64 (S.th i).op.key)) (ds := [7]) (bz 8 0).toArray (by kernel_rfl) rfl rfl ⟨(cell_blk (i := 0) ((Run.box_bx (b := w.heap.size) rfl _ _).keep K2.out.k).2 rfl), (R2.out.is.thc hp (k := 3) (fun _ _ => rfl))⟩ (fun hHeld => ?_)
  refine pure_ (i := 6) (N := some 8) (v := ?_) (a' := ?_) (bz 8 64).toArray rfl rfl (by kernel_rfl) (fun _ _ _ h => h) (Or.inl ⟨by rfl, ?_⟩) ?_ ?_
  rotate_left
  · intro w'
    go_simp
    with_reducible rfl
  rotate_left
  · simp only [Act.put, sqA, sqZ, sqS, i64_w, i32_w]
    rfl
  refine take_ (i := 0) (N := some 2) (v := ?_) (a' := ?_) (bz 8 65).toArray rfl rfl (by kernel_rfl) (fun _ _ _ h => h) (Or.inl ⟨by rfl, ?_⟩) hHeld ?_ ?_
  rotate_left
  · rintro w' ⟨s0, s1⟩
    go_simp
    with_reducible rfl
  rotate_left
  · simp only [Act.put, sqA, sqZ, sqS, i64_w, i32_w]
    rfl
  refine take_ (i := 1) (N := some 3) (v := ?_) (a' := ?_) (bz 8 67).toArray rfl rfl (by kernel_rfl) (fun _ _ _ h => h) (Or.inl ⟨by rfl, ?_⟩) hHeld ?_ ?_
  rotate_left
  · rintro w' ⟨s0, s1⟩
    go_simp
    with_reducible rfl
  rotate_left
  · simp only [Act.put, sqA, sqZ, sqS, i64_w, i32_w]
    rfl
  refine pure_ (i := 2) (N := some 4) (v := ?_) (a' := ?_) (bz 8 71).toArray rfl rfl (by kernel_rfl) (fun _ _ _ h => h) (Or.inl ⟨by rfl, ?_⟩) ?_ ?_
  rotate_left
  · intro w'
    go_simp
    with_reducible rfl
  rotate_left
  · simp only [Act.put, sqA, sqZ, sqS, i64_w, i32_w]
    rfl
  refine pure_ (i := 3) (N := some 5) (v := ?_) (a' := ?_) (bz 8 79).toArray rfl rfl (by kernel_rfl) (fun _ _ _ h => h) (Or.inl ⟨by rfl, ?_⟩) ?_ ?_
  rotate_left
  · intro w'
    go_simp
    with_reducible rfl
  rotate_left
  · simp only [Act.put, sqA, sqZ, sqS, i64_w, i32_w]
    rfl
  refine pure_ (i := 4) (N := some 6) (v := ?_) (a' := ?_) (bz 8 95).toArray rfl rfl (by kernel_rfl) (fun _ _ _ h => h) (Or.inl ⟨by rfl, ?_⟩) ?_ ?_
  rotate_left
  · intro w'
    go_simp
    with_reducible rfl
  rotate_left
  · simp only [Act.put, sqA, sqZ, sqS, i64_w, i32_w]
    rfl
  refine take_ (i := 5) (N := some 7) (v := ?_) (a' := ?_) (bz 8 127).toArray rfl rfl (by kernel_rfl) (fun _ _ _ h => h) (Or.inl ⟨by rfl, ?_⟩) hHeld ?_ ?_
  rotate_left
  · rintro w' ⟨s0, s1⟩
    go_simp
    with_reducible rfl
  rotate_left
  · simp only [Act.put, sqA, sqZ, sqS, i64_w, i32_w]
    rfl
  refine last_ (i := 7) (N := some 9) (bz 8 255).toArray rfl rfl (by kernel_rfl) (by decide) (fun K hK => ?_)
  refine goes_ Tryz.func73 (by kernel_rfl) rfl #[pt_ p, .int .i64 (S.th i).op.key, .func (.func 74) #[] #[pt_ w.heap.size]] (by rfl) rfl rfl (by simp only [List.map_toArray, List.map_cons, List.map_nil]; rfl) ?_
  with_reducible refine (CT.out).mono ?_
  rintro e w3 ⟨rfl, e3⟩
  refine ⟨_, rfl, ?_⟩
  refine hK.out _ _ ?_
  clear hK K
  refine norm_ (a' := ?_) ?_ ?_
  rotate_left
  · show Act.put _ (some 9) _ = _
    simp only [Act.put, sqA, sqZ, sqS, i64_w, i32_w]
    rfl
  refine done_ (by kernel_rfl) ?_
  go_wp2_with fail
  go_end0
  exact ⟨rfl, R2.out.then_ e3⟩
set_option maxRecDepth 100000 in
set_option maxHeartbeats 4000000 in
theorem xreturns_any {W w : World} {P : Pl} {own : Own} {S : Ix} (h : IS W w P own S) {i p : Nat} (hp : P.pts[i]? = some p) {a : AnsR} {pv : Value} (hps : PV w own pv a.pairs) :
    Calls Tryz.prog 86 #[pt_ p, .agg #[.int .i64 a.err, .bool a.ok, .int .i64 a.key, .int .i64 a.val, .int .i64 a.n, pv]] w fun e w' => e = .returned (.tuple #[]) ∧ Ends W P w own (S.returns i a) w' := by
  obtain ⟨pad, pn, pc, rfl⟩ := hps.slice
  have R0 := Lib.hid (Run.begin h)
  clear h
  have HV := Lib.hid hps
  clear hps
  have R1 := Lib.hid (R0.out.box (b := w.heap.size) rfl (o := .ro) (by simp) #[.int .i64 a.err, .bool a.ok, .int .i64 a.key, .int .i64 a.val, .int .i64 a.n, .slice pad pn pc] 45)
  have K1 := Lib.hid (R0.out.box_ka (b := w.heap.size) rfl (.ro) (.cells #[.int .i64 a.err, .bool a.ok, .int .i64 a.key, .int .i64 a.val, .int .i64 a.n, .slice pad pn pc] 45) i)
  go_enter Tryz.func86, Tryz.ntmps86
  go_wp2_with fail
  obtain ⟨nv0, pv0, ht0⟩ := R1.out.is.ths i p hp
  have ft1 := free_blk (i := 1) ht0.blk
  have ct1 := cell_blk (i := 1) ht0.blk rfl
  have ft9 := free_blk (i := 9) ht0.blk
  have ct9 := cell_blk (i := 9) ht0.blk rfl
  have ft10 := free_blk (i := 10) ht0.blk
  have ct10 := cell_blk (i := 10) ht0.blk rfl
  have ft11 := free_blk (i := 11) ht0.blk
  have ct11 := cell_blk (i := 11) ht0.blk rfl
  have ft12 := free_blk (i := 12) ht0.blk
  have ct12 := cell_blk (i := 12) ht0.blk rfl
  have ft13 := free_blk (i := 13) ht0.blk
  have ct13 := cell_blk (i := 13) ht0.blk rfl
  have ft14 := free_blk (i := 14) ht0.blk
  have ct14 := cell_blk (i := 14) ht0.blk rfl
  have ft15 := free_blk (i := 15) ht0.blk
  have ct15 := cell_blk (i := 15) ht0.blk rfl
  have HT0 := Lib.hid ht0
  clear ht0
  have R2 := Lib.hid R1.out.drew
  have K2 := Lib.hid (R1.out.drew_ka i)
  have hl := R2.out.is.th_lt hp
  have HT := R2.out.is.own_th hp
  have K3 := Lib.hid (KA.set (i := i) (w := (w.alloc (.cells #[.int .i64 a.err, .bool a.ok, .int .i64 a.key, .int .i64 a.val, .int .i64 a.n, .slice pad pn pc] 45)).drew) HT (.inl rfl) 1 (.bool false))
  have K4 := Lib.hid (KA.set (i := i) (w := ((w.alloc (.cells #[.int .i64 a.err, .bool a.ok, .int .i64 a.key, .int .i64 a.val, .int .i64 a.n, .slice pad pn pc] 45)).drew.setCell ⟨p, 1, none⟩ (.bool false))) HT (.inl rfl) 9 (.bool true))
  refine start_ (n := 13) (S := fun w' => w'.cell? ⟨w.heap.size, 0, none⟩ = some (.int .i64 a.err) ∧ w'.cell? ⟨w.heap.size, 1, none⟩ = some (.bool a.ok) ∧ w'.cell? ⟨w.heap.size, 2, none⟩ = some (.int .i64 a.key) ∧ w'.cell? ⟨w.heap.size, 3, none⟩ = some (.int .i64 a.val) ∧ w'.cell? ⟨w.heap.size, 4, none⟩ = some (.int .i64 a.n) ∧ w'.cell? ⟨w.heap.size, 5, none⟩ = some (.slice pad pn pc)) (ds := [12]) (bz 13 0).toArray (by kernel_rfl) rfl rfl ⟨(cell_blk (i := 0) ((Run.box_bx (b := w.heap.size) rfl _ _).keep K2.out.k).2 rfl), (cell_blk (i := 1) ((Run.box_bx (b := w.heap.size) rfl _ _).keep K2.out.k).2 rfl), (cell_blk (i := 2) ((Run.box_bx (b := w.heap.size) rfl _ _).keep K2.out.k).2 rfl), (cell_blk (i := 3) ((Run.box_bx (b := w.heap.size) rfl _ _).keep K2.out.k).2 rfl), (cell_blk (i := 4) ((Run.box_bx (b := w.heap.size) rfl _ _).keep K2.out.k).2 rfl), (cell_blk (i := 5) ((Run.box_bx (b := w.heap.size) rfl _ _).keep K2.out.k).2 rfl)⟩ (fun hHeld => ?_)
  refine pure_ (i := 0) (N := some 4) (v := ?_) (a' := ?_) (bz 13 1).toArray rfl rfl (by kernel_rfl) (fun _ _ _ h => h) (Or.inl ⟨by rfl, ?_⟩) ?_ ?_
  rotate_left
  · intro w'
    go_simp
    with_reducible rfl
  rotate_left
  · simp only [Act.put, sqA, sqZ, sqS, i64_w, i32_w]
    rfl
  refine pure_ (i := 1) (N := some 5) (v := ?_) (a' := ?_) (bz 13 3).toArray rfl rfl (by kernel_rfl) (fun _ _ _ h => h) (Or.inl ⟨by rfl, ?_⟩) ?_ ?_
  rotate_left
  · intro w'
    go_simp
    with_reducible rfl
  rotate_left
  · simp only [Act.put, sqA, sqZ, sqS, i64_w, i32_w]
    rfl
  refine pure_ (i := 2) (N := some 6) (v := ?_) (a' := ?_) (bz 13 7).toArray rfl rfl (by kernel_rfl) (fun _ _ _ h => h) (Or.inl ⟨by rfl, ?_⟩) ?_ ?_
  rotate_left
  · intro w'
    go_simp
    with_reducible rfl
  rotate_left
  · simp only [Act.put, sqA, sqZ, sqS, i64_w, i32_w]
    rfl
  refine pure_ (i := 4) (N := some 8) (v := ?_) (a' := ?_) (bz 13 23).toArray rfl rfl (by kernel_rfl) (fun _ _ _ h => h) (Or.inl ⟨by rfl, ?_⟩) ?_ ?_
  rotate_left
  · intro w'
    go_simp
    with_reducible rfl
  rotate_left
  · simp only [Act.put, sqA, sqZ, sqS, i64_w, i32_w]
    rfl
  refine pure_ (i := 5) (N := some 9) (v := ?_) (a' := ?_) (bz 13 55).toArray rfl rfl (by kernel_rfl) (fun _ _ _ h => h) (Or.inl ⟨by rfl, ?_⟩) ?_ ?_
  rotate_left
  · intro w'
    go_simp
    with_reducible rfl
  rotate_left
  · simp only [Act.put, sqA, sqZ, sqS, i64_w, i32_w]
    rfl
  refine take_ (i := 3) (N := some 7) (v := ?_) (a' := ?_) (bz 13 63).toArray rfl rfl (by kernel_rfl) (fun _ _ _ h => h) (Or.inl ⟨by rfl, ?_⟩) hHeld ?_ ?_
  rotate_left
  · rintro w' ⟨s0, s1, s2, s3, s4, s5⟩
    go_simp
    with_reducible rfl
  rotate_left
  · simp only [Act.put, sqA, sqZ, sqS, i64_w, i32_w]
    rfl
  refine one_ (i := 6) (N := none) (bz 13 127).toArray rfl rfl (by kernel_rfl) (by decide) (fun K hK => ?_)
  refine skip_ (w1 := ?_) (by rfl) rfl ?_ ?_
  rotate_left
  · go_simp
    rfl
  refine hK.out _ _ ⟨(cell_blk (i := 0) (((Run.box_bx (b := w.heap.size) rfl _ _).keep K2.out.k).keep K3.out.k).2 rfl), (cell_blk (i := 1) (((Run.box_bx (b := w.heap.size) rfl _ _).keep K2.out.k).keep K3.out.k).2 rfl), (cell_blk (i := 2) (((Run.box_bx (b := w.heap.size) rfl _ _).keep K2.out.k).keep K3.out.k).2 rfl), (cell_blk (i := 3) (((Run.box_bx (b := w.heap.size) rfl _ _).keep K2.out.k).keep K3.out.k).2 rfl), (cell_blk (i := 4) (((Run.box_bx (b := w.heap.size) rfl _ _).keep K2.out.k).keep K3.out.k).2 rfl), (cell_blk (i := 5) (((Run.box_bx (b := w.heap.size) rfl _ _).keep K2.out.k).keep K3.out.k).2 rfl)⟩ (fun hHeld => ?_)
  clear hK K
  refine pure_ (i := 7) (N := some 10) (v := ?_) (a' := ?_) (bz 13 255).toArray rfl rfl (by kernel_rfl) (fun _ _ _ h => h) (Or.inl ⟨by rfl, ?_⟩) ?_ ?_
  rotate_left
  · intro w'
    go_simp
    with_reducible rfl
  rotate_left
  · simp only [Act.put, sqA, sqZ, sqS, i64_w, i32_w]
    rfl
  refine pure_ (i := 8) (N := some 11) (v := ?_) (a' := ?_) (bz 13 511).toArray rfl rfl (by kernel_rfl) (fun _ _ _ h => h) (Or.inl ⟨by rfl, ?_⟩) ?_ ?_
  rotate_left
  · intro w'
    go_simp
    with_reducible rfl
  rotate_left
  · simp only [Act.put, sqA, sqZ, sqS, i64_w, i32_w]
    rfl
  refine one_ (i := 9) (N := none) (bz 13 1023).toArray rfl rfl (by kernel_rfl) (by decide) (fun K hK => ?_)
  refine skip_ (w1 := ?_) (by rfl) rfl ?_ ?_
  rotate_left
  · go_simp
    rfl
  refine hK.out _ _ ⟨(cell_blk (i := 0) ((((Run.box_bx (b := w.heap.size) rfl _ _).keep K2.out.k).keep K3.out.k).keep K4.out.k).2 rfl), (cell_blk (i := 1) ((((Run.box_bx (b := w.heap.size) rfl _ _).keep K2.out.k).keep K3.out.k).keep K4.out.k).2 rfl), (cell_blk (i := 2) ((((Run.box_bx (b := w.heap.size) rfl _ _).keep K2.out.k).keep K3.out.k).keep K4.out.k).2 rfl), (cell_blk (i := 3) ((((Run.box_bx (b := w.heap.size) rfl _ _).keep K2.out.k).keep K3.out.k).keep K4.out.k).2 rfl), (cell_blk (i := 4) ((((Run.box_bx (b := w.heap.size) rfl _ _).keep K2.out.k).keep K3.out.k).keep K4.out.k).2 rfl), (cell_blk (i := 5) ((((Run.box_bx (b := w.heap.size) rfl _ _).keep K2.out.k).keep K3.out.k).keep K4.out.k).2 rfl)⟩ (fun hHeld => ?_)
  clear hK K
  refine pure_ (i := 10) (N := some 12) (v := ?_) (a' := ?_) (bz 13 2047).toArray rfl rfl (by kernel_rfl) (fun _ _ _ h => h) (Or.inl ⟨by rfl, ?_⟩) ?_ ?_
  rotate_left
  · intro w'
    go_simp
    with_reducible rfl
  rotate_left
  · simp only [Act.put, sqA, sqZ, sqS, i64_w, i32_w]
    rfl
  refine pure_ (i := 11) (N := some 13) (v := ?_) (a' := ?_) (bz 13 4095).toArray rfl rfl (by kernel_rfl) (fun _ _ _ h => h) (Or.inl ⟨by rfl, ?_⟩) ?_ ?_
  rotate_left
  · intro w'
    go_simp
    with_reducible rfl
  rotate_left
  · simp only [Act.put, sqA, sqZ, sqS, i64_w, i32_w]
    rfl
  refine last_ (i := 12) (N := none) (bz 13 8191).toArray rfl rfl (by kernel_rfl) (by decide) (fun K hK => ?_)
  refine skip_ (w1 := ?_) (by rfl) rfl ?_ ?_
  rotate_left
  · go_simp
    rfl
  refine hK.out _ _ ?_
  clear hK K
  refine done_ (by kernel_rfl) ?_
  go_wp2_with fail
  go_end0
  have E := R1.out.returns hp (a := a) ((HV.out).keep K1.out.k)
  exact ⟨rfl, E.drew.ends⟩
end Go.Proofs.YtghjnkfocjjlnaaGreat
end
