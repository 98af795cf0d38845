/- The tree, where there is one leaf. -/
import Derived.Test.YtghjnkfocjjlnaaGreatT00
import Derived.Test.YtghjnkfocjjlnaaGreatT22
import Derived.Test.YtghjnkfocjjlnaaGreatT23
set_option linter.unusedSimpArgs false
set_option linter.unusedVariables false
namespace Go.Proofs.YtghjnkfocjjlnaaGreat
set_option maxRecDepth 100000
open Go.RowKit Go.Proofs.YtghjnkfocjjlnaaGreatW.PrintWords Go.Proofs.YtghjnkfocjjlnaaGreatW.PrintLast
set_option linter.unusedVariables false
set_option linter.unusedSimpArgs false
set_option maxRecDepth 100000 in
set_option maxHeartbeats 4000000 in
theorem xseen_any {W w : World} {P : Pl} {own : Own} {S : Ix} (h : IS W w P own S) (id : Int) (hk : (S.base id).kind = 3) :
    Calls Tryz.prog 60 #[pt_ P.px, .int .i64 id] w fun e w' => e = .returned (.agg #[.int .i64 (S.base id).id, .int .i64 (S.base id).kind, .int .i64 (S.base id).treap, .int .i64 (S.base id).stat, .int .i64 (S.base id).home]) ∧ Below w.heap.size w w' := by
  have R0 := Lib.hid (Run.begin h)
  clear h
  have HK := Lib.hid hk
  clear hk
  have R1 := Lib.hid (R0.out.alloc (.cells #[.int .i64 0, .int .i64 0, .int .i64 0, .int .i64 0, .int .i64 0] 120))
  have K1 := Lib.hid (R0.out.alloc_ka (.cells #[.int .i64 0, .int .i64 0, .int .i64 0, .int .i64 0, .int .i64 0] 120) 0)
  have HZ := Lib.hid (R0.out.alloc_fx (b := w.heap.size) rfl #[.int .i64 0, .int .i64 0, .int .i64 0, .int .i64 0, .int .i64 0] 120)
  go_enter Tryz.func60, Tryz.ntmps60
  go_wp2_with fail
  refine (xbase_any R1.out.is id).mono ?_
  rintro e w2 ⟨rfl, b2⟩
  have BW := Lib.hid b2
  have R2 := Lib.hid (R1.out.later b2)
  have K2 := Lib.hid (R1.out.below_ka b2 0)
  clear b2
  have R3 := Lib.hid (R2.out.alloc (.cells #[.int .i64 (S.base id).id, .int .i64 (S.base id).kind, .int .i64 (S.base id).treap, .int .i64 (S.base id).stat, .int .i64 (S.base id).home] 120))
  have K3 := Lib.hid (R2.out.alloc_ka (.cells #[.int .i64 (S.base id).id, .int .i64 (S.base id).kind, .int .i64 (S.base id).treap, .int .i64 (S.base id).stat, .int .i64 (S.base id).home] 120) 0)
  have HB := Lib.hid (R2.out.alloc_fx (b := w2.heap.size) rfl #[.int .i64 (S.base id).id, .int .i64 (S.base id).kind, .int .i64 (S.base id).treap, .int .i64 (S.base id).stat, .int .i64 (S.base id).home] 120)
  have kb : (w2.alloc (.cells #[.int .i64 (S.base id).id, .int .i64 (S.base id).kind, .int .i64 (S.base id).treap, .int .i64 (S.base id).stat, .int .i64 (S.base id).home] 120)).cell? ⟨w2.heap.size, 1, none⟩ = some (.int .i64 3) := by have h2 := cell_blk (i := 1) (HB.out).2 rfl; rw [← HK.out]; exact h2
  have cb_0 := cell_blk (i := 0) (HB.out).2 rfl
  have cb_2 := cell_blk (i := 2) (HB.out).2 rfl
  have cb_3 := cell_blk (i := 3) (HB.out).2 rfl
  have cb_4 := cell_blk (i := 4) (HB.out).2 rfl
  have cz_0 := cell_blk (i := 0) (((HZ.out).keep K2.out.f).keep K3.out.f).2 rfl
  have cz_1 := cell_blk (i := 1) (((HZ.out).keep K2.out.f).keep K3.out.f).2 rfl
  have cz_2 := cell_blk (i := 2) (((HZ.out).keep K2.out.f).keep K3.out.f).2 rfl
  have cz_3 := cell_blk (i := 3) (((HZ.out).keep K2.out.f).keep K3.out.f).2 rfl
  have cz_4 := cell_blk (i := 4) (((HZ.out).keep K2.out.f).keep K3.out.f).2 rfl
  have fz_0 := free_blk (i := 0) (((HZ.out).keep K2.out.f).keep K3.out.f).2
  have fz_1 := free_blk (i := 1) (((HZ.out).keep K2.out.f).keep K3.out.f).2
  have fz_2 := free_blk (i := 2) (((HZ.out).keep K2.out.f).keep K3.out.f).2
  have fz_3 := free_blk (i := 3) (((HZ.out).keep K2.out.f).keep K3.out.f).2
  have fz_4 := free_blk (i := 4) (((HZ.out).keep K2.out.f).keep K3.out.f).2
  have hlz := (((HZ.out).keep K2.out.f).keep K3.out.f).lt
  have hlb := (HB.out).lt
  go_wp2_with fail
  refine bodyPost_ret (v := .agg #[.int .i64 (S.base id).id, .int .i64 3, .int .i64 (S.base id).treap, .int .i64 (S.base id).stat, .int .i64 (S.base id).home]) (by simp [results, Tryz.results60, go_sem, hlz, hlb, cz_0, fz_0, cz_1, fz_1, cz_2, fz_2, cz_3, fz_3, cz_4, fz_4]) rfl ⟨by rw [HK.out], ?_⟩
  have bw := ((Below.refl w.heap.size w).alloc (Nat.le_refl _) (.cells #[.int .i64 0, .int .i64 0, .int .i64 0, .int .i64 0, .int .i64 0] 120)).trans (BW.out.mono (by simp))
  exact (((((bw.alloc bw.size _).setCell (Nat.le_refl _) _).setCell (Nat.le_refl _) _).setCell (Nat.le_refl _) _).setCell (Nat.le_refl _) _).setCell (Nat.le_refl _) _
/-- A leaf as it is told: its pairs as a slice, its stat. -/
def leafC (pv : Value) (stat : Int) : List Value := [.bool false, .int .i64 0, .int .i64 0, .int .i64 0, pv, .int .i64 stat]
theorem info_node : (Tryz.prog.info? 62).map (fun i => (i.zero, i.size, i.bytes)) = some (some (.agg #[.bool false, .int .i64 0, .int .i64 0, .int .i64 0, .slice none 0 0, .int .i64 0]), 6, 64) := by kernel_rfl
/-- append of one struct to a row: in a region that draws. -/
theorem wpo_app1 {o : Oper} {a : Act} {K : Act → World → Prop} {Q : Exit → Act → World → Prop} {w : World} {TS T : TypeId} {z : Value} {size bytes : Nat} {v : Value} {n q : Nat} {xs : List Value} {cs : Array Value} (s x : Operand)
    (ho : o.op = .call { callee := .builtin .append, args := #[s, x], argTypes := #[TS, TS] }) (hTS : Tryz.prog.underlying TS = some (.slice T)) (hinfo : (Tryz.prog.info? T).map (fun i => (i.zero, i.size, i.bytes)) = some (some z, size, bytes)) (hzs : z.cells.size = size) (hsz : 0 < size) (hb : bytes ≤ 1000)
    (hs : a.eval s = v) (hx : a.eval x = .slice (some ⟨q, 0, none⟩) 1 1) (R : w.ownsRow 0 T size v n xs) (hq : w.heap[q]? = some (.cells cs T (0, 0))) (hcs : cs.size = size) (hone : ∀ u ∈ cs.toList, u.oneCell' = true) (hn : n ≤ 1000000)
    (h : ∀ g cap w', w'.ownsRow 0 T size (.slice (some ⟨g, 0, none⟩) (n + 1) cap) (n + 1) (xs ++ cs.toList) → w.grownBy w' v.ownBlock → (v.ownBlock = some g ∨ g = w.heap.size) → K (a.put o.dst (.slice (some ⟨g, 0, none⟩) (n + 1) cap)) w') :
    o.wp Tryz.prog a w K Q := by
  obtain ⟨i0, hi, hz0, hz1, hz2⟩ := info_parts hinfo
  refine wp_append_lies (P := Tryz.prog) w s x TS ho 0 T i0 z size bytes hTS hi hz0 hz1 hz2 hzs hsz v n xs hs R ⟨q, 0, none⟩ 1 1 cs.toList hx (by simp [hcs]) (World.news_of_block hq) hone (by decide) (by unfold maxLen; omega) ?_ (Nat.zero_le _) _ rfl ?_
  · have : (n + 1) * bytes ≤ 1000001 * 1000 := Nat.mul_le_mul (by omega) hb
    omega
  · intro g cap w' h1 h2 h3 _
    exact h g cap w' h1 h2 h3
theorem step_app1 {ops : Array Oper} {o : Oper} {N : Option Tmp} {a : Act} {K : Act → World → Prop} {Q : Exit → Act → World → Prop} {w : World} {TS T : TypeId} {z : Value} {size bytes : Nat} {v : Value} {n q : Nat} {xs : List Value} {cs : Array Value} (hw : Region.wanted o (yielded ops a.tmps) = true) (hN : o.dst = N) (s x : Operand)
    (ho : o.op = .call { callee := .builtin .append, args := #[s, x], argTypes := #[TS, TS] }) (hTS : Tryz.prog.underlying TS = some (.slice T)) (hinfo : (Tryz.prog.info? T).map (fun i => (i.zero, i.size, i.bytes)) = some (some z, size, bytes)) (hzs : z.cells.size = size) (hsz : 0 < size) (hb : bytes ≤ 1000)
    (hs : a.eval s = v) (hx : a.eval x = .slice (some ⟨q, 0, none⟩) 1 1) (R : w.ownsRow 0 T size v n xs) (hq : w.heap[q]? = some (.cells cs T (0, 0))) (hcs : cs.size = size) (hone : ∀ u ∈ cs.toList, u.oneCell' = true) (hn : n ≤ 1000000)
    (h : ∀ g cap w', w'.ownsRow 0 T size (.slice (some ⟨g, 0, none⟩) (n + 1) cap) (n + 1) (xs ++ cs.toList) → w.grownBy w' v.ownBlock → (v.ownBlock = some g ∨ g = w.heap.size) → K (a.put N (.slice (some ⟨g, 0, none⟩) (n + 1) cap)) w') :
    if Region.wanted o (yielded ops a.tmps) = true then Oper.wp Tryz.prog o a w K Q else K (a.put N undef) w := by
  rw [if_pos hw]
  subst hN
  exact wpo_app1 s x ho hTS hinfo hzs hsz hb hs hx R hq hcs hone hn h
theorem wp_app1 {P' : Array Oper} {rest : List Oper} {o : Oper} {a : Act} {Q : Exit → Act → World → Prop} {w : World} {TS T : TypeId} {z : Value} {size bytes : Nat} {v : Value} {n q : Nat} {xs : List Value} {cs : Array Value} (hgd : o.guard = none) (s x : Operand)
    (ho : o.op = .call { callee := .builtin .append, args := #[s, x], argTypes := #[TS, TS] }) (hTS : Tryz.prog.underlying TS = some (.slice T)) (hinfo : (Tryz.prog.info? T).map (fun i => (i.zero, i.size, i.bytes)) = some (some z, size, bytes)) (hzs : z.cells.size = size) (hsz : 0 < size) (hb : bytes ≤ 1000)
    (hs : a.eval s = v) (hx : a.eval x = .slice (some ⟨q, 0, none⟩) 1 1) (R : w.ownsRow 0 T size v n xs) (hq : w.heap[q]? = some (.cells cs T (0, 0))) (hcs : cs.size = size) (hone : ∀ u ∈ cs.toList, u.oneCell' = true) (hn : n ≤ 1000000)
    (h : ∀ g cap w', w'.ownsRow 0 T size (.slice (some ⟨g, 0, none⟩) (n + 1) cap) (n + 1) (xs ++ cs.toList) → w.grownBy w' v.ownBlock → (v.ownBlock = some g ∨ g = w.heap.size) → wpList Tryz.prog P' Q rest (a.put o.dst (.slice (some ⟨g, 0, none⟩) (n + 1) cap)) w') :
    wpList Tryz.prog P' Q (o :: rest) a w :=
  wpList_plain hgd fun K hK => wpo_app1 s x ho hTS hinfo hzs hsz hb hs hx R hq hcs hone hn fun g cap w' h1 h2 h3 => hK _ _ (h g cap w' h1 h2 h3)
/-- Blocks of nobody are as they were, one apart. -/
def FKx (bt : Nat) (w : World) (own : Own) (w' : World) (own' : Own) : Prop := w.heap.size ≤ w'.heap.size ∧ ∀ b, b < w.heap.size → own b = none → b ≠ bt → own' b = none ∧ w'.heap[b]? = w.heap[b]?
abbrev allP (l : List Pr) : List Pr := betw (-9223372036854775808) 9223372036854775807 l
theorem PIn.set {w : World} {ad : Option Addr} {c : Nat} {l : List Pr} (h : PIn w ad c l) {b : Nat} (hq : ∀ x, ad = some x → x.block ≠ b) (k : Nat) (v : Value) : PIn (w.setCell ⟨b, k, none⟩ v) ad c l := by
  refine ⟨?_, h.room, h.most⟩
  rcases h.at_ with h1 | ⟨g, off, h1, h2⟩
  · exact .inl h1
  · refine .inr ⟨g, off, h1, fun j hj => ?_⟩
    have hne : g ≠ b := hq _ h1
    rw [cell_set_other hne, cell_set_other hne]
    exact h2 j hj
def Lay1 (W w : World) (P : Pl) (own : Own) (S1 : Ix) (bt : Nat) (rt : Int) (l : List Pr) (stat : Int) (e : Ending) (w' : World) : Prop :=
  ∃ own' g cap pad pc n, e = .returned (.int .i64 0) ∧ n = (allP l).length ∧ IS W w' P own' S1 ∧ FKx bt w own w' own' ∧ own' bt = none ∧ w'.heap[bt]? = some (.cells #[.int .i64 rt, .slice (some ⟨g, 0, none⟩) 1 cap] 38 (0, 0)) ∧
    w'.ownsRow 0 62 6 (.slice (some ⟨g, 0, none⟩) 1 cap) 1 (leafC (.slice pad n pc) stat) ∧ PIn w' pad pc (allP l) ∧ w.heap.size ≤ g ∧ (∀ x, pad = some x → w.heap.size ≤ x.block)
set_option maxRecDepth 100000 in
set_option maxHeartbeats 4000000 in
theorem xlay1_any {W w : World} {P : Pl} {own : Own} {S : Ix} (h : IS W w P own S) (cell : Int) {bt : Nat} {rt : Int} {l : List Pr} (hbt : Fx w own bt #[.int .i64 rt, .slice none 0 0] 38) (hbW : W.heap.size ≤ bt) (hk : ((S.ofA (loadO (some S.a) cell).2).base (loadO (some S.a) cell).1).kind = 3) (ht : Tr (S.ofA (loadO (some S.a) cell).2).a ((S.ofA (loadO (some S.a) cell).2).base (loadO (some S.a) cell).1).treap l) (hs : Sorted l) (hlt : ((S.ofA (loadO (some S.a) cell).2).base (loadO (some S.a) cell).1).treap < 1000000) (hlen : l.length ≤ 60000) :
    Calls Tryz.prog 45 #[pt_ P.px, .int .i64 cell, pt_ bt] w fun e w' => Lay1 W w P own (S.ofA (loadO (some S.a) cell).2) bt rt l ((S.ofA (loadO (some S.a) cell).2).base (loadO (some S.a) cell).1).stat e w' := by
  have R0 := Lib.hid (Run.begin h)
  clear h
  have HBT := Lib.hid hbt
  clear hbt
  have HBW := Lib.hid hbW
  clear hbW
  have HK := Lib.hid hk
  clear hk
  have HT := Lib.hid ht
  clear ht
  have HS := Lib.hid hs
  clear hs
  have HLT := Lib.hid hlt
  clear hlt
  have HLEN := Lib.hid hlen
  clear hlen
  have cl := load_any R0.out.is.arena cell
  obtain ⟨AC, hAC⟩ : ∃ x, x = loadO (some S.a) cell := ⟨_, rfl⟩
  rw [← hAC] at cl
  have CL := Lib.hid cl
  clear cl
  have HK2 := Lib.hid (show ((S.ofA AC.2).base AC.1).kind = 3 by rw [hAC]; exact HK.out)
  have HT2 := Lib.hid (show Tr (S.ofA AC.2).a ((S.ofA AC.2).base AC.1).treap l by rw [hAC]; exact HT.out)
  have HLT2 := Lib.hid (show ((S.ofA AC.2).base AC.1).treap < 1000000 by rw [hAC]; exact HLT.out)
  rw [← hAC]
  have HAC := Lib.hid hAC
  clear hAC HK HT HLT
  obtain ⟨lb, hlb⟩ : ∃ lb, lb = allP l := ⟨_, rfl⟩
  obtain ⟨n, hn⟩ : ∃ n, n = lb.length := ⟨_, rfl⟩
  have HLB := Lib.hid hlb
  have HN := Lib.hid hn
  clear hlb hn
  go_enter Tryz.func45, Tryz.ntmps45
  have cbt_1 := cell_blk (i := 1) (HBT.out).2 rfl
  have cx0 := R0.out.is.xa
  go_wp2_with fail
  refine (CL.out).mono ?_
  rintro e w1 ⟨rfl, m1⟩
  clear cbt_1 cx0
  obtain ⟨o1, r1, k1⟩ := R0.out.madeO m1 0
  have R1 := Lib.hid r1
  have K1 := Lib.hid k1
  clear m1 r1 k1
  have cx0 := R1.out.is.xa
  have k3 : kindO (some (S.ofA AC.2).a) AC.1 = 3 := HK2.out
  have q0 : (kindO (some (S.ofA AC.2).a) AC.1 == 2) = false := by rw [k3]; rfl
  have q1 : (kindO (some (S.ofA AC.2).a) AC.1 != 2) = true := by rw [bne, q0]; rfl
  clear k3
  go_wp2_with fail
  refine (kind_any R1.out.is.arena AC.1).mono ?_
  rintro e w' ⟨rfl, rfl⟩
  go_wp2_with fail
  refine (xseen_any R1.out.is AC.1 HK2.out).mono ?_
  rintro e w2 ⟨rfl, b2⟩
  clear cx0
  have R2 := Lib.hid (R1.out.later b2)
  have K2 := Lib.hid (R1.out.below_ka b2 0)
  clear b2
  have R3 := Lib.hid (R2.out.alloc (.cells #[.int .i64 ((S.ofA AC.2).base AC.1).id, .int .i64 ((S.ofA AC.2).base AC.1).kind, .int .i64 ((S.ofA AC.2).base AC.1).treap, .int .i64 ((S.ofA AC.2).base AC.1).stat, .int .i64 ((S.ofA AC.2).base AC.1).home] 120))
  have K3 := Lib.hid (R2.out.alloc_ka (.cells #[.int .i64 ((S.ofA AC.2).base AC.1).id, .int .i64 ((S.ofA AC.2).base AC.1).kind, .int .i64 ((S.ofA AC.2).base AC.1).treap, .int .i64 ((S.ofA AC.2).base AC.1).stat, .int .i64 ((S.ofA AC.2).base AC.1).home] 120) 0)
  have HB := Lib.hid (R2.out.alloc_fx (b := w2.heap.size) rfl #[.int .i64 ((S.ofA AC.2).base AC.1).id, .int .i64 ((S.ofA AC.2).base AC.1).kind, .int .i64 ((S.ofA AC.2).base AC.1).treap, .int .i64 ((S.ofA AC.2).base AC.1).stat, .int .i64 ((S.ofA AC.2).base AC.1).home] 120)
  go_wp2_with fail
  have R4 := Lib.hid R3.out.drew
  have K4 := Lib.hid (R3.out.drew_ka 0)
  refine start_ (n := 20) (S := fun w' => w'.cell? ⟨bt, 1, none⟩ = some (.slice none 0 0) ∧ w'.cell? ⟨P.px, 0, none⟩ = some (pt_ P.pa) ∧ w'.cell? ⟨w2.heap.size, 2, none⟩ = some (.int .i64 ((S.ofA AC.2).base AC.1).treap) ∧ w'.cell? ⟨w2.heap.size, 3, none⟩ = some (.int .i64 ((S.ofA AC.2).base AC.1).stat)) (ds := [16, 19]) (bz 20 0).toArray (by kernel_rfl) rfl rfl ⟨(cell_blk (i := 1) (((((HBT.out).keep K1.out.f).keep K2.out.f).keep K3.out.f).keep K4.out.f).2 rfl), (R4.out.is.xa), (cell_blk (i := 2) ((HB.out).keep K4.out.f).2 rfl), (cell_blk (i := 3) ((HB.out).keep K4.out.f).2 rfl)⟩ (fun hHeld => ?_)
  refine pure_ (i := 0) (N := some 34) (v := ?_) (a' := ?_) (bz 20 1).toArray rfl rfl (by kernel_rfl) (fun _ _ _ h => h) (Or.inl ⟨by rfl, ?_⟩) ?_ ?_
  rotate_left
  · intro w'
    go_simp
    with_reducible rfl
  rotate_left
  · simp only [Act.put, sqA, sqZ, sqS, i64_w, i32_w]
    rfl
  refine pure_ (i := 1) (N := some 35) (v := ?_) (a' := ?_) (bz 20 3).toArray rfl rfl (by kernel_rfl) (fun _ _ _ h => h) (Or.inl ⟨by rfl, ?_⟩) ?_ ?_
  rotate_left
  · intro w'
    go_simp
    with_reducible rfl
  rotate_left
  · simp only [Act.put, sqA, sqZ, sqS, i64_w, i32_w]
    rfl
  refine pure_ (i := 2) (N := some 36) (v := ?_) (a' := ?_) (bz 20 7).toArray rfl rfl (by kernel_rfl) (fun _ _ _ h => h) (Or.inl ⟨by rfl, ?_⟩) ?_ ?_
  rotate_left
  · intro w'
    go_simp
    with_reducible rfl
  rotate_left
  · simp only [Act.put, sqA, sqZ, sqS, i64_w, i32_w]
    rfl
  refine pure_ (i := 3) (N := some 37) (v := ?_) (a' := ?_) (bz 20 15).toArray rfl rfl (by kernel_rfl) (fun _ _ _ h => h) (Or.inl ⟨by rfl, ?_⟩) ?_ ?_
  rotate_left
  · intro w'
    go_simp
    with_reducible rfl
  rotate_left
  · simp only [Act.put, sqA, sqZ, sqS, i64_w, i32_w]
    rfl
  refine pure_ (i := 5) (N := some 39) (v := ?_) (a' := ?_) (bz 20 47).toArray rfl rfl (by kernel_rfl) (fun _ _ _ h => h) (Or.inl ⟨by rfl, ?_⟩) ?_ ?_
  rotate_left
  · intro w'
    go_simp
    with_reducible rfl
  rotate_left
  · simp only [Act.put, sqA, sqZ, sqS, i64_w, i32_w]
    rfl
  refine pure_ (i := 6) (N := some 40) (v := ?_) (a' := ?_) (bz 20 111).toArray rfl rfl (by kernel_rfl) (fun _ _ _ h => h) (Or.inl ⟨by rfl, ?_⟩) ?_ ?_
  rotate_left
  · intro w'
    go_simp
    with_reducible rfl
  rotate_left
  · simp only [Act.put, sqA, sqZ, sqS, i64_w, i32_w]
    rfl
  refine pure_ (i := 7) (N := some 41) (v := ?_) (a' := ?_) (bz 20 239).toArray rfl rfl (by kernel_rfl) (fun _ _ _ h => h) (Or.inl ⟨by rfl, ?_⟩) ?_ ?_
  rotate_left
  · intro w'
    go_simp
    with_reducible rfl
  rotate_left
  · simp only [Act.put, sqA, sqZ, sqS, i64_w, i32_w]
    rfl
  refine pure_ (i := 9) (N := some 43) (v := ?_) (a' := ?_) (bz 20 751).toArray rfl rfl (by kernel_rfl) (fun _ _ _ h => h) (Or.inl ⟨by rfl, ?_⟩) ?_ ?_
  rotate_left
  · intro w'
    go_simp
    with_reducible rfl
  rotate_left
  · simp only [Act.put, sqA, sqZ, sqS, i64_w, i32_w]
    rfl
  refine pure_ (i := 12) (N := some 46) (v := ?_) (a' := ?_) (bz 20 4847).toArray rfl rfl (by kernel_rfl) (fun _ _ _ h => h) (Or.inl ⟨by rfl, ?_⟩) ?_ ?_
  rotate_left
  · intro w'
    go_simp
    with_reducible rfl
  rotate_left
  · simp only [Act.put, sqA, sqZ, sqS, i64_w, i32_w]
    rfl
  refine take_ (i := 4) (N := some 38) (v := ?_) (a' := ?_) (bz 20 4863).toArray rfl rfl (by kernel_rfl) (fun _ _ _ h => h) (Or.inl ⟨by rfl, ?_⟩) hHeld ?_ ?_
  rotate_left
  · rintro w' ⟨s0, s1, s2, s3⟩
    go_simp
    with_reducible rfl
  rotate_left
  · simp only [Act.put, sqA, sqZ, sqS, i64_w, i32_w]
    rfl
  refine take_ (i := 8) (N := some 42) (v := ?_) (a' := ?_) (bz 20 5119).toArray rfl rfl (by kernel_rfl) (fun _ _ _ h => h) (Or.inl ⟨by rfl, ?_⟩) hHeld ?_ ?_
  rotate_left
  · rintro w' ⟨s0, s1, s2, s3⟩
    go_simp
    with_reducible rfl
  rotate_left
  · simp only [Act.put, sqA, sqZ, sqS, i64_w, i32_w]
    rfl
  refine take_ (i := 10) (N := some 44) (v := ?_) (a' := ?_) (bz 20 6143).toArray rfl rfl (by kernel_rfl) (fun _ _ _ h => h) (Or.inl ⟨by rfl, ?_⟩) hHeld ?_ ?_
  rotate_left
  · rintro w' ⟨s0, s1, s2, s3⟩
    go_simp
    with_reducible rfl
  rotate_left
  · simp only [Act.put, sqA, sqZ, sqS, i64_w, i32_w]
    rfl
  refine take_ (i := 13) (N := some 47) (v := ?_) (a' := ?_) (bz 20 14335).toArray rfl rfl (by kernel_rfl) (fun _ _ _ h => h) (Or.inl ⟨by rfl, ?_⟩) hHeld ?_ ?_
  rotate_left
  · rintro w' ⟨s0, s1, s2, s3⟩
    go_simp
    with_reducible rfl
  rotate_left
  · simp only [Act.put, sqA, sqZ, sqS, i64_w, i32_w]
    rfl
  refine one_ (i := 11) (N := some 45) (bz 20 16383).toArray rfl rfl (by kernel_rfl) (by decide) (fun K hK => ?_)
  have ca := all_any R4.out.is.arena HT2.out HS.out HLT2.out HLEN.out
  rw [← show lb = betw (-9223372036854775808) 9223372036854775807 l from HLB.out, ← HN.out] at ca
  have CA := Lib.hid ca
  clear ca
  refine goes_ Tryz.func61 (by kernel_rfl) rfl #[pt_ P.pa, .int .i64 ((S.ofA AC.2).base AC.1).treap] (by rfl) rfl rfl (by simp only [List.map_toArray, List.map_cons, List.map_nil]; rfl) ?_
  with_reducible refine (CA.out).mono ?_
  rintro e w5 ⟨ad7, c7, rfl, p7, q7, b5⟩
  have P7 := Lib.hid p7
  have Q7 := Lib.hid q7
  clear p7 q7
  have R5 := Lib.hid (R4.out.later b5)
  have K5 := Lib.hid (R4.out.below_ka b5 0)
  clear b5
  refine ⟨_, rfl, ?_⟩
  refine hK.out _ _ ⟨(cell_blk (i := 1) ((((((HBT.out).keep K1.out.f).keep K2.out.f).keep K3.out.f).keep K4.out.f).keep K5.out.f).2 rfl), (R5.out.is.xa), (cell_blk (i := 2) (((HB.out).keep K4.out.f).keep K5.out.f).2 rfl), (cell_blk (i := 3) (((HB.out).keep K4.out.f).keep K5.out.f).2 rfl)⟩ ?_
  clear hHeld
  intro hHeld
  clear hK K
  refine norm_ (a' := ?_) ?_ ?_
  rotate_left
  · show Act.put _ (some 45) _ = _
    simp only [Act.put, sqA, sqZ, sqS, i64_w, i32_w]
    rfl
  refine pure_ (i := 14) (N := some 48) (v := ?_) (a' := ?_) (bz 20 32767).toArray rfl rfl (by kernel_rfl) (fun _ _ _ h => h) (Or.inl ⟨by rfl, ?_⟩) ?_ ?_
  rotate_left
  · intro w'
    go_simp
    with_reducible rfl
  rotate_left
  · simp only [Act.put, sqA, sqZ, sqS, i64_w, i32_w]
    rfl
  refine one_ (i := 15) (N := some 49) (bz 20 65535).toArray rfl rfl (by kernel_rfl) (by decide) (fun K hK => ?_)
  refine value_ (w1 := ?_) (v := ?_) (by rfl) rfl ?_ ?_
  rotate_left 2
  · go_simp
    constructor
    · rfl
    · rfl
  have R6 := Lib.hid (R5.out.alloc (.cells #[.bool false, .int .i64 0, .int .i64 0, .int .i64 0, .slice ad7 n c7, .int .i64 ((S.ofA AC.2).base AC.1).stat] 62))
  have K6 := Lib.hid (R5.out.alloc_ka (.cells #[.bool false, .int .i64 0, .int .i64 0, .int .i64 0, .slice ad7 n c7, .int .i64 ((S.ofA AC.2).base AC.1).stat] 62) 0)
  have HE := Lib.hid (R5.out.alloc_fx (b := w5.heap.size) rfl #[.bool false, .int .i64 0, .int .i64 0, .int .i64 0, .slice ad7 n c7, .int .i64 ((S.ofA AC.2).base AC.1).stat] 62)
  refine hK.out _ _ ⟨(cell_blk (i := 1) (((((((HBT.out).keep K1.out.f).keep K2.out.f).keep K3.out.f).keep K4.out.f).keep K5.out.f).keep K6.out.f).2 rfl), (R6.out.is.xa), (cell_blk (i := 2) ((((HB.out).keep K4.out.f).keep K5.out.f).keep K6.out.f).2 rfl), (cell_blk (i := 3) ((((HB.out).keep K4.out.f).keep K5.out.f).keep K6.out.f).2 rfl)⟩ ?_
  clear hHeld
  intro hHeld
  clear hK K
  refine norm_ (a' := ?_) ?_ ?_
  rotate_left
  · show Act.put _ (some 49) _ = _
    simp only [Act.put, sqA, sqZ, sqS, i64_w, i32_w]
    rfl
  refine last_ (i := 16) (N := some 50) (bz 20 131071).toArray rfl rfl (by kernel_rfl) (by decide) (fun K hK => ?_)
  refine step_app1 (by rfl) rfl (.tmp 38) (.tmp 49) rfl Tryz.underlying36 info_node rfl (by decide) (by decide) rfl rfl (World.ownsRow_nil _ _ _ _) (HE.out).2 rfl (fun u hu => by have hu : u ∈ [.bool false, .int .i64 0, .int .i64 0, .int .i64 0, .slice ad7 n c7, .int .i64 ((S.ofA AC.2).base AC.1).stat] := hu; simp only [List.mem_cons, List.not_mem_nil, or_false] at hu; rcases hu with rfl | rfl | rfl | rfl | rfl | rfl <;> rfl) (by omega) ?_
  intro g9 cap9 w9 ho9 hg9 hl9
  have HO9 := Lib.hid ho9
  have B9 := Lib.hid ((Below.refl _ _).grown hg9 (Nat.le_refl _) (by intro k hk; cases hk))
  have hb9 := Lib.hid ((B9.out.block bt (((((((HBT.out).keep K1.out.f).keep K2.out.f).keep K3.out.f).keep K4.out.f).keep K5.out.f).keep K6.out.f).lt).trans (((((((HBT.out).keep K1.out.f).keep K2.out.f).keep K3.out.f).keep K4.out.f).keep K5.out.f).keep K6.out.f).2)
  have fbt := free_blk (i := 1) hb9.out
  have cbt := cell_blk (i := 1) hb9.out rfl
  have lbt := (Array.getElem?_eq_some_iff.1 hb9.out).1
  have HL9 := Lib.hid (show g9 = _ from hl9.elim (fun e => by cases e) id)
  clear ho9 hg9 hl9
  have R7 := Lib.hid (R6.out.later B9.out)
  have K7 := Lib.hid (R6.out.below_ka B9.out 0)
  refine hK.out _ _ ?_
  clear hK K
  refine norm_ (a' := ?_) ?_ ?_
  rotate_left
  · show Act.put _ (some 50) _ = _
    simp only [Act.put, sqA, sqZ, sqS, i64_w, i32_w]
    rfl
  refine pure_ (i := 17) (N := some 51) (v := ?_) (a' := ?_) (bz 20 262143).toArray rfl rfl (by kernel_rfl) (fun _ _ _ h => h) (Or.inl ⟨by rfl, ?_⟩) ?_ ?_
  rotate_left
  · intro w'
    go_simp
    with_reducible rfl
  rotate_left
  · simp only [Act.put, sqA, sqZ, sqS, i64_w, i32_w]
    rfl
  refine pure_ (i := 18) (N := some 52) (v := ?_) (a' := ?_) (bz 20 524287).toArray rfl rfl (by kernel_rfl) (fun _ _ _ h => h) (Or.inl ⟨by rfl, ?_⟩) ?_ ?_
  rotate_left
  · intro w'
    go_simp
    with_reducible rfl
  rotate_left
  · simp only [Act.put, sqA, sqZ, sqS, i64_w, i32_w]
    rfl
  refine lastdone_ (i := 19) (N := none) (bz 20 1048575).toArray rfl rfl (by kernel_rfl) (by decide) (by kernel_rfl) (fun K hK => ?_)
  refine skip_ (w1 := ?_) (by rfl) rfl ?_ ?_
  rotate_left
  · go_simp
    rfl
  refine hK.out _ _ ?_
  clear hK K
  clear fbt cbt lbt
  go_wp2_with fail
  go_ret
  have hown := ((((((((HBT.out).keep K1.out.f).keep K2.out.f).keep K3.out.f).keep K4.out.f).keep K5.out.f).keep K6.out.f).keep K7.out.f).1
  have hlt9 : bt < g9 := by have h1 := (((((((HBT.out).keep K1.out.f).keep K2.out.f).keep K3.out.f).keep K4.out.f).keep K5.out.f).keep K6.out.f).lt; rw [HL9.out]; exact h1
  have hq7 : ∀ x, ad7 = some x → x.block ≠ bt := fun x hx => by have h1 := Q7.out x hx; have h2 := (((((HBT.out).keep K1.out.f).keep K2.out.f).keep K3.out.f).keep K4.out.f).lt; omega
  refine ⟨_, g9, cap9, ad7, c7, n, rfl, by rw [← HLB.out]; exact HN.out, R7.out.is.free (R7.out.is.below.setCell HBW.out _) (by simp [World.setCell]) (fun b o ho => setCell_other _ (by rintro rfl; rw [hown] at ho; cases ho)), ⟨by simpa [World.setCell] using R7.out.fk.1, fun b hb ho hne => ⟨(R7.out.fk.2 b hb ho).1, (setCell_other _ hne).trans (R7.out.fk.2 b hb ho).2⟩⟩, hown, by rw [heap_setCell_same w9 bt 1 _ _ _ hb9.out]; rfl, ?_, ?_, ?_, ?_⟩
  · exact ownsRow_same HO9.out (fun b hb => setCell_other _ (fun e => by have h1 : g9 = b := Option.some.inj hb; rw [e] at h1; omega))
  · rw [← HLB.out]
    exact PIn.set ((P7.out.later ((Below.refl _ _).alloc (Nat.le_refl _) _)).later B9.out) hq7 1 _
  · have h1 := R6.out.fk.1; rw [HL9.out]; exact h1
  · intro x hx; have h1 := Q7.out x hx; have h2 := R4.out.fk.1; omega
/-- The tree of one leaf, as it is told. -/
def Tree1 (W w : World) (P : Pl) (own : Own) (S1 : Ix) (l : List Pr) (stat : Int) (e : Ending) (w' : World) : Prop :=
  ∃ own' g cap pad pc n, e = .returned (.agg #[.int .i64 0, .slice (some ⟨g, 0, none⟩) 1 cap]) ∧ n = (allP l).length ∧ IS W w' P own' S1 ∧ FK w own w' own' ∧
    w'.ownsRow 0 62 6 (.slice (some ⟨g, 0, none⟩) 1 cap) 1 (leafC (.slice pad n pc) stat) ∧ PIn w' pad pc (allP l) ∧ w.heap.size ≤ g ∧ (∀ x, pad = some x → w.heap.size ≤ x.block)
set_option maxRecDepth 100000 in
set_option maxHeartbeats 4000000 in
theorem xtree1_any {W w : World} {P : Pl} {own : Own} {S : Ix} (h : IS W w P own S) {l : List Pr} (hk : ((S.ofA (loadO (some S.a) S.root).2).base (loadO (some S.a) S.root).1).kind = 3) (ht : Tr (S.ofA (loadO (some S.a) S.root).2).a ((S.ofA (loadO (some S.a) S.root).2).base (loadO (some S.a) S.root).1).treap l) (hs : Sorted l) (hlt : ((S.ofA (loadO (some S.a) S.root).2).base (loadO (some S.a) S.root).1).treap < 1000000) (hlen : l.length ≤ 60000) :
    Calls Tryz.prog 29 #[pt_ P.px] w fun e w' => Tree1 W w P own (S.ofA (loadO (some S.a) S.root).2) l ((S.ofA (loadO (some S.a) S.root).2).base (loadO (some S.a) S.root).1).stat e w' := by
  have R0 := Lib.hid (Run.begin h)
  clear h
  have HK := Lib.hid hk
  clear hk
  have HT := Lib.hid ht
  clear ht
  have HS := Lib.hid hs
  clear hs
  have HLT := Lib.hid hlt
  clear hlt
  have HLEN := Lib.hid hlen
  clear hlen
  have hsW := R0.out.is.below.size
  have R1 := Lib.hid (R0.out.alloc (.cells #[.int .i64 0, .slice none 0 0] 38))
  have K1 := Lib.hid (R0.out.alloc_ka (.cells #[.int .i64 0, .slice none 0 0] 38) 0)
  have HA := Lib.hid (R0.out.alloc_fx (b := w.heap.size) rfl #[.int .i64 0, .slice none 0 0] 38)
  have R2 := Lib.hid (R1.out.alloc (.cells #[.int .i64 0, .slice none 0 0] 38))
  have K2 := Lib.hid (R1.out.alloc_ka (.cells #[.int .i64 0, .slice none 0 0] 38) 0)
  have HBT := Lib.hid (R1.out.alloc_fx (b := w.heap.size + 1) (by simp) #[.int .i64 0, .slice none 0 0] 38)
  go_enter Tryz.func29, Tryz.ntmps29
  have cx6 := R2.out.is.ixc (k := 6) (fun _ _ => rfl)
  go_wp2_with fail
  refine (xlay1_any R2.out.is S.root (bt := w.heap.size + 1) (rt := 0) (l := l) (HBT.out) (by omega) HK.out HT.out HS.out HLT.out HLEN.out).mono ?_
  rintro e w5 ⟨own5, g9, cap9, pad, pc, n, rfl, hn, is5, fkx, hown, hblk, hrow, hpin, hg, hq⟩
  clear cx6
  simp at hg
  have IS5 := Lib.hid is5
  have FX5 := Lib.hid fkx
  have HB5 := Lib.hid hblk
  have HR5 := Lib.hid hrow
  have HP5 := Lib.hid hpin
  have HQ5 := Lib.hid hq
  have HN5 := Lib.hid hn
  have HO5 := Lib.hid hown
  clear is5 fkx hblk hrow hpin hq hn hown
  have A5 := Lib.hid ((FX5.out.2 w.heap.size ((HA.out).keep K2.out.f).lt ((HA.out).keep K2.out.f).1 (by omega)).2.trans ((HA.out).keep K2.out.f).2)
  have OA5 := Lib.hid (FX5.out.2 w.heap.size ((HA.out).keep K2.out.f).lt ((HA.out).keep K2.out.f).1 (by omega)).1
  have y0 := cell_blk (i := 0) HB5.out rfl
  have x0 := cell_blk (i := 0) A5.out rfl
  have fx0 := free_blk (i := 0) A5.out
  have y1 := cell_blk (i := 1) HB5.out rfl
  have x1 := cell_blk (i := 1) A5.out rfl
  have fx1 := free_blk (i := 1) A5.out
  have hl0 : w.heap.size < w5.heap.size := (Array.getElem?_eq_some_iff.1 A5.out).1
  have hl1 : w.heap.size + 1 < w5.heap.size := (Array.getElem?_eq_some_iff.1 HB5.out).1
  go_wp2_with fail
  refine bodyPost_ret (v := .agg #[.int .i64 0, .slice (some ⟨g9, 0, none⟩) 1 cap9]) (by simp [results, Tryz.results29, go_sem, hl0, hl1, x0, x1, fx0, fx1]) rfl ?_
  have hne : ∀ b o, own5 b = some o → b ≠ w.heap.size := fun b o ho e => by rw [e, OA5.out] at ho; cases ho
  refine ⟨own5, g9, cap9, pad, pc, n, rfl, HN5.out, ?_, ?_, ?_, ?_, by omega, ?_⟩
  · exact IS5.out.free ((IS5.out.below.setCell (by omega) _).setCell (by omega) _) (by simp [World.setCell]) (fun b o ho => by rw [setCell_other _ (hne b o ho), setCell_other _ (hne b o ho)])
  · refine ⟨by have h1 := FX5.out.1; simp [World.setCell] at h1 ⊢; omega, fun b hb ho => ?_⟩
    have h1 := R2.out.fk.2 b hb ho
    have h2 := FX5.out.2 b (by simp; omega) h1.1 (by omega)
    exact ⟨h2.1, by rw [setCell_other _ (by omega), setCell_other _ (by omega)]; exact h2.2.trans h1.2⟩
  · refine ownsRow_same HR5.out (fun b hb => ?_)
    have h1 : g9 = b := Option.some.inj hb
    rw [setCell_other _ (by omega), setCell_other _ (by omega)]
  · exact (HP5.out.set (fun x hx => by have h1 := HQ5.out x hx; simp at h1; omega) 0 _).set (fun x hx => by have h1 := HQ5.out x hx; simp at h1; omega) 1 _
  · intro x hx
    have h1 := HQ5.out x hx
    simp at h1
    omega
end Go.Proofs.YtghjnkfocjjlnaaGreat
