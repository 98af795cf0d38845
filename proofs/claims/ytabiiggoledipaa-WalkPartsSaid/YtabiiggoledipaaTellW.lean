/- What a walker is told: Range and Count. -/
import Derived.Test.YtabiiggoledipaaRefW
import Derived.Test.YtabiiggoledipaaLookW4
namespace Go.Proofs.Ytabiiggoledipaa
set_option maxRecDepth 100000
open Go.RowKit Go.Proofs.YtabiiggoledipaaW.PrintWords Go.Proofs.YtabiiggoledipaaW.PrintLast
set_option linter.unusedSimpArgs false
set_option linter.unusedVariables false

/-- A walker at p (its left nodes L), what is told so far at g. -/
structure GR (B : Nat) (W0 wr : World) (p g : Nat) (po : Option Addr) (lo hi L : Int) (out : List Pr) : Prop where
  below : Below B W0 wr
  walker : wr.heap[p]? = some (.cells #[.pointer po, .int .i64 lo, .int .i64 hi, .int .i64 L, .func (.func 44) #[] #[.pointer (some ⟨g, 0, none⟩)]] 79 (0, 0))
  told : ∃ v, wr.heap[g]? = some (.cells #[v] 22 (0, 0)) ∧ FRel B wr v out
  ne : p ≠ g
  lp : B ≤ p
  lg : B ≤ g
theorem GR.size {B : Nat} {W0 wr : World} {p g : Nat} {po : Option Addr} {lo hi L : Int} {out : List Pr} (h : GR B W0 wr p g po lo hi L out) : p < wr.heap.size := (Array.getElem?_eq_some_iff.1 h.walker).1
/-- No node's block has turned. -/
def NK (w w' : World) : Prop := ∀ (b : Nat) (cs : Array Value) (fr : Nat × Nat), w.heap[b]? = some (.cells cs 64 fr) → w'.heap[b]? = some (.cells cs 64 fr)
theorem NK.refl (w : World) : NK w w := fun _ _ _ h => h
theorem NK.trans {a b c : World} (h : NK a b) (k : NK b c) : NK a c := fun x cs fr hx => k x cs fr (h x cs fr hx)
theorem NK.of_below {w w' : World} (hb : Below w.heap.size w w') : NK w w' := fun b cs fr h => (hb.block b (Array.getElem?_eq_some_iff.1 h).1).trans h
theorem NK.set {w : World} {b i : Nat} {cs : Array Value} {ty : TypeId} {fr : Nat × Nat} (hb : w.heap[b]? = some (.cells cs ty fr)) (hty : ty ≠ 64) (v : Value) : NK w (w.setCell ⟨b, i, none⟩ v) := fun x cx fx hx => by
  have hne : x ≠ b := fun e => by subst e; rw [hb] at hx; simp at hx; exact hty hx.2.1
  exact (heap_setCell_other w ⟨b, i, none⟩ x v hne).trans hx
theorem grown_none {w w' : World} (hb : Below w.heap.size w w') : w.grownBy w' none := ⟨hb.os, hb.tape, hb.output, hb.size, fun k hk _ => hb.block k hk⟩
theorem FRel.later {B : Nat} {w w' : World} {v : Value} {out : List Pr} (h : FRel B w v out) (hb : Below w.heap.size w w') : FRel B w' v out :=
  ⟨h.own.kept (grown_none hb) (by cases v.ownBlock <;> simp), Nat.le_trans h.le hb.size⟩
theorem FRel.other {B g : Nat} {w : World} {v : Value} {out : List Pr} {cs : Array Value} {ty : TypeId} {fr : Nat × Nat} (h : FRel B w v out) (hg : w.heap[g]? = some (.cells cs ty fr)) (hty : ty ≠ 25) : v.ownBlock ≠ some g := fun e => by
  obtain ⟨cur, hc⟩ := ownsRow_block h.own e
  rw [hc] at hg
  simp at hg
  exact hty hg.2.1.symm
theorem NK.grown {B : Nat} {w w' : World} {v : Value} {out : List Pr} (R : FRel B w v out) (hg : w.grownBy w' v.ownBlock) : NK w w' := fun x cx fx hx =>
  (hg.block x (Array.getElem?_eq_some_iff.1 hx).1 (fun e => by exact FRel.other (ty := 64) R hx (by decide) e.symm)).trans hx
theorem Below.growB {B : Nat} {W wr w' : World} {v : Value} {out : List Pr} (h : Below B W wr) (R : FRel B wr v out) (hg : wr.grownBy w' v.ownBlock) : Below B W w' :=
  h.grown hg R.le (fun k hk => (R.own.lt k hk).1)
theorem GR.later {B : Nat} {W0 wr w' : World} {p g : Nat} {po : Option Addr} {lo hi L : Int} {out : List Pr} (h : GR B W0 wr p g po lo hi L out) (hb : Below wr.heap.size wr w') : GR B W0 w' p g po lo hi L out := by
  obtain ⟨v, h1, h2⟩ := h.told
  have hg := (Array.getElem?_eq_some_iff.1 h1).1
  exact ⟨h.below.trans (hb.mono h2.le), (hb.block p h.size).trans h.walker, ⟨v, (hb.block g hg).trans h1, h2.later hb⟩, h.ne, h.lp, h.lg⟩
theorem GR.le {B : Nat} {W0 wr : World} {p g : Nat} {po : Option Addr} {lo hi L : Int} {out : List Pr} (h : GR B W0 wr p g po lo hi L out) : B ≤ wr.heap.size := by have := h.lp; have := h.size; omega
theorem GR.left {B : Nat} {W0 wr : World} {p g : Nat} {po : Option Addr} {lo hi L : Int} {out : List Pr} (h : GR B W0 wr p g po lo hi L out) (L' : Int) : GR B W0 (wr.setCell ⟨p, 3, none⟩ (.int .i64 L')) p g po lo hi L' out := by
  obtain ⟨v, h1, h2⟩ := h.told
  have hp := heap_setCell_same wr p 3 _ _ (.int .i64 L') h.walker
  refine ⟨h.below.setCell (p := ⟨p, 3, none⟩) h.lp _, hp, ⟨v, (heap_setCell_other wr ⟨p, 3, none⟩ g (.int .i64 L') (fun e => h.ne e.symm)).trans h1, ?_⟩, h.ne, h.lp, h.lg⟩
  exact ⟨ownsRow_setCell_other h2.own (h2.other h.walker (by decide)) _, by have := h2.le; simp; omega⟩
set_option maxRecDepth 100000 in
set_option maxHeartbeats 4000000 in
theorem tell_any {B : Nat} {W0 w : World} {p g : Nat} {po : Option Addr} {lo hi L : Int} {out : List Pr} (h : GR B W0 w p g po lo hi L out) (k v : Int) (hlen : out.length ≤ 1000001) :
    Calls Try.prog 44 #[.agg #[.int .i64 k, .int .i64 v], .pointer (some ⟨g, 0, none⟩)] w fun e w' => e = .returned (.tuple #[]) ∧ GR B W0 w' p g po lo hi L (out ++ [(k, v)]) ∧ NK w w' := by
  obtain ⟨v0, hg, hf⟩ := h.told
  have hlg := (Array.getElem?_eq_some_iff.1 hg).1
  have hlp := h.size
  have HG := Lib.hid hg; clear hg
  have HF := Lib.hid hf; clear hf
  have HH := Lib.hid h; clear h
  have R2 := Lib.hid ((HF.out.alloc (.cells #[.int .i64 k, .int .i64 v] 25)).alloc (.cells #[.int .i64 k, .int .i64 v] 25))
  have hg2 : ((w.alloc (.cells #[.int .i64 k, .int .i64 v] 25)).alloc (.cells #[.int .i64 k, .int .i64 v] 25)).heap[w.heap.size + 1]? = some (.cells #[.int .i64 k, .int .i64 v] 25 (0, 0)) := by
    have := heap_alloc_new (w.alloc (.cells #[.int .i64 k, .int .i64 v] 25)) (.cells #[.int .i64 k, .int .i64 v] 25)
    simpa using this
  have G2 := Lib.hid hg2; clear hg2
  have H2 := Lib.hid (HH.out.later (((Below.refl _ _).alloc (Nat.le_refl _) (.cells #[.int .i64 k, .int .i64 v] 25)).alloc (by simp) (.cells #[.int .i64 k, .int .i64 v] 25)))
  have J2 := Lib.hid ((((Below.refl w.heap.size w).alloc (Nat.le_refl _) (.cells #[.int .i64 k, .int .i64 v] 25)).alloc (by simp) (.cells #[.int .i64 k, .int .i64 v] 25)).block g hlg |>.trans HG.out)
  have c0 := cell_blk (i := 0) HG.out rfl
  go_enter Try.func44, Try.ntmps44
  go_wp2_with (at_builtin; go_loud (refine wp_appr (y := (k, v)) rfl (.tmp 3) (.tmp 5) rfl rfl rfl R2.out G2.out hlen ?_; intro v1 w1 r1 g1; have R3 := Lib.hid r1; have B3 := Lib.hid (Below.growB H2.out.below R2.out g1); have P3 := Lib.hid ((g1.block p H2.out.size (fun e => R2.out.other H2.out.walker (by decide) e.symm)).trans H2.out.walker); have K3 := Lib.hid (NK.grown R2.out g1); have J3 := Lib.hid ((g1.block g (Array.getElem?_eq_some_iff.1 J2.out).1 (fun e => R2.out.other J2.out (by decide) e.symm)).trans J2.out); have x0 := cell_blk (i := 0) J3.out rfl; have f0 := free_blk (i := 0) J3.out; obtain ⟨ad1, c1, rfl, p1, n1⟩ := r1.gives; clear r1 g1 p1 n1))
  go_end0
  have r3 := R3.out
  rw [show (out ++ [(k, v)]).length = out.length + 1 by simp] at r3
  refine ⟨rfl, ⟨B3.out.setCell (p := ⟨g, 0, none⟩) HH.out.lg _, (heap_setCell_other w1 ⟨g, 0, none⟩ p _ HH.out.ne).trans P3.out, ⟨_, heap_setCell_same w1 g 0 _ _ _ J3.out, ownsRow_setCell_other r3.own (FRel.other (ty := 22) r3 J3.out (by decide)) _, by have := r3.le; simp; omega⟩, HH.out.ne, HH.out.lp, HH.out.lg⟩, ((NK.of_below (((Below.refl w.heap.size w).alloc (Nat.le_refl _) (.cells #[.int .i64 k, .int .i64 v] 25)).alloc (by simp) (.cells #[.int .i64 k, .int .i64 v] 25))).trans K3.out).trans (NK.set J3.out (by decide) _)⟩
/-- A walker at p (its left nodes L), what is told so far at g. -/
structure CR (B : Nat) (W0 wr : World) (p g : Nat) (po : Option Addr) (lo hi L : Int) (out : List Pr) : Prop where
  below : Below B W0 wr
  walker : wr.heap[p]? = some (.cells #[.pointer po, .int .i64 lo, .int .i64 hi, .int .i64 L, .func (.func 45) #[] #[.pointer (some ⟨g, 0, none⟩)]] 79 (0, 0))
  told : wr.heap[g]? = some (.cells #[.int .i64 (out.length : Int)] 3 (0, 0))
  ne : p ≠ g
  lp : B ≤ p
  lg : B ≤ g
theorem CR.size {B : Nat} {W0 wr : World} {p g : Nat} {po : Option Addr} {lo hi L : Int} {out : List Pr} (h : CR B W0 wr p g po lo hi L out) : p < wr.heap.size := (Array.getElem?_eq_some_iff.1 h.walker).1
theorem CR.le {B : Nat} {W0 wr : World} {p g : Nat} {po : Option Addr} {lo hi L : Int} {out : List Pr} (h : CR B W0 wr p g po lo hi L out) : B ≤ wr.heap.size := by have := h.lp; have := h.size; omega
theorem CR.later {B : Nat} {W0 wr w' : World} {p g : Nat} {po : Option Addr} {lo hi L : Int} {out : List Pr} (h : CR B W0 wr p g po lo hi L out) (hb : Below wr.heap.size wr w') : CR B W0 w' p g po lo hi L out :=
  ⟨h.below.trans (hb.mono h.le), (hb.block p h.size).trans h.walker, (hb.block g (Array.getElem?_eq_some_iff.1 h.told).1).trans h.told, h.ne, h.lp, h.lg⟩
theorem CR.left {B : Nat} {W0 wr : World} {p g : Nat} {po : Option Addr} {lo hi L : Int} {out : List Pr} (h : CR B W0 wr p g po lo hi L out) (L' : Int) : CR B W0 (wr.setCell ⟨p, 3, none⟩ (.int .i64 L')) p g po lo hi L' out :=
  ⟨h.below.setCell (p := ⟨p, 3, none⟩) h.lp _, heap_setCell_same wr p 3 _ _ (.int .i64 L') h.walker, (heap_setCell_other wr ⟨p, 3, none⟩ g (.int .i64 L') (fun e => h.ne e.symm)).trans h.told, h.ne, h.lp, h.lg⟩
set_option maxRecDepth 100000 in
set_option maxHeartbeats 4000000 in
theorem count1_any {B : Nat} {W0 w : World} {p g : Nat} {po : Option Addr} {lo hi L : Int} {out : List Pr} (h : CR B W0 w p g po lo hi L out) (k v : Int) (hlen : out.length ≤ 1000001) :
    Calls Try.prog 45 #[.agg #[.int .i64 k, .int .i64 v], .pointer (some ⟨g, 0, none⟩)] w fun e w' => e = .returned (.tuple #[]) ∧ CR B W0 w' p g po lo hi L (out ++ [(k, v)]) ∧ NK w w' := by
  have H1 := Lib.hid (h.later ((Below.refl _ _).alloc (Nat.le_refl _) (.cells #[.int .i64 k, .int .i64 v] 25)))
  have hg := h.told
  have hlg := (Array.getElem?_eq_some_iff.1 hg).1
  have x0 := cell_blk (i := 0) hg rfl
  have f0 := free_blk (i := 0) hg
  have HT := Lib.hid hg; clear hg
  have HH := Lib.hid h; clear h
  go_enter Try.func45, Try.ntmps45
  go_wp2_with fail
  go_end0
  refine ⟨rfl, ?_, ((NK.set HT.out (by decide) _).trans (NK.of_below ((Below.refl _ _).alloc (Nat.le_refl _) (.cells #[.int .i64 k, .int .i64 v] 25))))⟩
  have s1 : CR B W0 (w.setCell ⟨g, 0, none⟩ (.int .i64 ((out.length : Int) + 1))) p g po lo hi L (out ++ [(k, v)]) :=
    ⟨HH.out.below.setCell (p := ⟨g, 0, none⟩) HH.out.lg _, (heap_setCell_other w ⟨g, 0, none⟩ p _ HH.out.ne).trans HH.out.walker, by rw [show (((out ++ [(k, v)]).length : Nat) : Int) = (out.length : Int) + 1 by simp]; exact heap_setCell_same w g 0 _ _ _ HT.out, HH.out.ne, HH.out.lp, HH.out.lg⟩
  exact s1.later ((Below.refl _ _).alloc (Nat.le_refl _) (.cells #[.int .i64 k, .int .i64 v] 25))

end Go.Proofs.Ytabiiggoledipaa
