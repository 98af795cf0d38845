/- A new cell with a new leaf; a new index. -/
/- A new index of no pairs. -/
import Derived.Test.YtghjnkfocjjlnaaGreatT24
import Derived.Test.YtghjnkfocjjlnaaGreatT00
set_option linter.unusedSimpArgs false
set_option linter.unusedVariables false
section
namespace Go.Proofs.YtghjnkfocjjlnaaGreat
set_option maxRecDepth 100000
open Go.RowKit Go.Proofs.YtghjnkfocjjlnaaGreatW.PrintWords Go.Proofs.YtghjnkfocjjlnaaGreatW.PrintLast
set_option linter.unusedVariables false
set_option linter.unusedSimpArgs false
/-- A new cell with a new leaf in it: its number, the leaf's, why not, the index. -/
def Ix.cellOf (S : Ix) (t : Int) : Int × Int × Int × Ix :=
  if (cellO (some S.a) 0).2.1 ≠ 0 then (0, 0, (cellO (some S.a) 0).2.1, S.ofA (cellO (some S.a) 0).2.2)
  else if (makeO (some (S.ofA (cellO (some S.a) 0).2.2).a) 3 [t, 0, (cellO (some S.a) 0).1]).2.1 ≠ 0 then (0, 0, (makeO (some (S.ofA (cellO (some S.a) 0).2.2).a) 3 [t, 0, (cellO (some S.a) 0).1]).2.1, (S.ofA (cellO (some S.a) 0).2.2).ofA (makeO (some (S.ofA (cellO (some S.a) 0).2.2).a) 3 [t, 0, (cellO (some S.a) 0).1]).2.2)
  else ((cellO (some S.a) 0).1, (makeO (some (S.ofA (cellO (some S.a) 0).2.2).a) 3 [t, 0, (cellO (some S.a) 0).1]).1, 0,
    ((S.ofA (cellO (some S.a) 0).2.2).ofA (makeO (some (S.ofA (cellO (some S.a) 0).2.2).a) 3 [t, 0, (cellO (some S.a) 0).1]).2.2).ofA (onceO (some ((S.ofA (cellO (some S.a) 0).2.2).ofA (makeO (some (S.ofA (cellO (some S.a) 0).2.2).a) 3 [t, 0, (cellO (some S.a) 0).1]).2.2).a) (cellO (some S.a) 0).1 (makeO (some (S.ofA (cellO (some S.a) 0).2.2).a) 3 [t, 0, (cellO (some S.a) 0).1]).1).2)
set_option maxRecDepth 100000 in
set_option maxHeartbeats 4000000 in
theorem xcellOf_any {W w : World} {P : Pl} {own : Own} {S : Ix} (h : IS W w P own S) (t : Int) :
    Calls Tryz.prog 51 #[pt_ P.px, .int .i64 t] w fun e w' => e = .returned (.tuple #[.int .i64 (S.cellOf t).1, .int .i64 (S.cellOf t).2.1, .int .i64 (S.cellOf t).2.2.1]) ∧ ∃ own', Run W P w own (S.cellOf t).2.2.2 w' own' ∧ KA 0 w own w' own' := by
  have R0 := Lib.hid (Run.begin h)
  clear h
  obtain ⟨MD, hMD⟩ : ∃ M, M = S.cellOf t := ⟨_, rfl⟩
  rw [← hMD]
  unfold Ix.cellOf at hMD
  have cc := cellnew_any R0.out.is.arena 0
  generalize cellO (some S.a) 0 = CE at cc hMD
  obtain ⟨ci, ce, CA⟩ := CE
  simp only [] at cc hMD
  have CC := Lib.hid cc
  have HM := Lib.hid hMD
  clear cc hMD
  go_enter Tryz.func51, Tryz.ntmps51
  have cx0 := R0.out.is.xa
  go_wp2_with fail
  refine (CC.out).mono ?_
  rintro e w1 ⟨rfl, m1⟩
  clear cx0
  obtain ⟨o1, r1, k1⟩ := R0.out.madeO m1 0
  have R1 := Lib.hid r1
  have K1 := Lib.hid k1
  clear m1 r1 k1
  clear CC
  by_cases h0 : ce ≠ 0
  · have hq := HM.out
    rw [if_pos h0] at hq
    subst hq
    have q0 : (ce == 0) = false := beq_eq_false_iff_ne.2 h0
    have q1 : (ce != 0) = true := by rw [bne, q0]; rfl
    clear h0
    go_wp2_with fail
    refine bodyPost_ret (v := .tuple #[.int .i64 0, .int .i64 0, .int .i64 ce]) (by simp [results, Tryz.results51, go_sem]) rfl ?_
    exact ⟨rfl, _, R1.out, K1.out⟩
  · have hq := HM.out
    rw [if_neg h0] at hq
    clear HM
    have q0 : (ce == 0) = true := beq_iff_eq.2 (by simpa using h0)
    have q1 : (ce != 0) = false := by rw [bne, q0]; rfl
    have HI := Lib.hid (ints_new w1 (w1.heap.size) #[.int .i64 t, .int .i64 0, .int .i64 ci] (l := [t, 0, ci]) rfl rfl)
    have cx0 := R1.out.is.xa
    have R2 := Lib.hid (R1.out.alloc (.cells #[.int .i64 t, .int .i64 0, .int .i64 ci] 3))
    have K2 := Lib.hid (R1.out.alloc_ka (.cells #[.int .i64 t, .int .i64 0, .int .i64 ci] 3) 0)
    have HSL := Lib.hid (R1.out.alloc_fx (b := w1.heap.size) rfl #[.int .i64 t, .int .i64 0, .int .i64 ci] 3)
    have cm := make_any R2.out.is.arena 3 HI.out
    rw [show [t, 0, ci].length = 3 from rfl] at cm
    generalize makeO (some (S.ofA CA).a) 3 [t, 0, ci] = MK at cm hq
    obtain ⟨mi, me, MA⟩ := MK
    simp only [] at cm hq
    have CM := Lib.hid cm
    have HQ2 := Lib.hid hq
    clear cm hq h0
    go_wp2_with fail
    refine (CM.out).mono ?_
    rintro e w3 ⟨rfl, m3⟩
    clear cx0
    obtain ⟨o3, r3, k3⟩ := R2.out.madeO m3 0
    have R3 := Lib.hid r3
    have K3 := Lib.hid k3
    clear m3 r3 k3
    clear CM q0 q1
    by_cases h0 : me ≠ 0
    · have hq := HQ2.out
      rw [if_pos h0] at hq
      subst hq
      have q0 : (me == 0) = false := beq_eq_false_iff_ne.2 h0
      have q1 : (me != 0) = true := by rw [bne, q0]; rfl
      clear h0
      go_wp2_with fail
      refine bodyPost_ret (v := .tuple #[.int .i64 0, .int .i64 0, .int .i64 me]) (by simp [results, Tryz.results51, go_sem]) rfl ?_
      exact ⟨rfl, _, R3.out, ((K1.out).trans K2.out).trans K3.out⟩
    · have hq := HQ2.out
      rw [if_neg h0] at hq
      have q0 : (me == 0) = true := beq_iff_eq.2 (by simpa using h0)
      have q1 : (me != 0) = false := by rw [bne, q0]; rfl
      have cx0 := R3.out.is.xa
      have co := once_any R3.out.is.arena ci mi
      have HQ3 := Lib.hid hq
      have CO := Lib.hid co
      clear co hq h0
      go_wp2_with fail
      refine (CO.out).mono ?_
      rintro e w4 ⟨rfl, m4⟩
      clear cx0
      obtain ⟨o4, r4, k4⟩ := R3.out.madeO m4 0
      have R4 := Lib.hid r4
      have K4 := Lib.hid k4
      clear m4 r4 k4
      have hq := HQ3.out
      subst hq
      go_wp2_with fail
      refine bodyPost_ret (v := .tuple #[.int .i64 ci, .int .i64 mi, .int .i64 0]) (by simp [results, Tryz.results51, go_sem]) rfl ?_
      exact ⟨rfl, _, R4.out, (((K1.out).trans K2.out).trans K3.out).trans K4.out⟩
/-- An index of no threads. -/
theorem IS.start {W w : World} {px pa : Nat} {a : Ar} {p : PolR} (hB : Below W.heap.size W w) (hA : OAt w (some ⟨pa, 0, none⟩) (some a) (fun b => b = pa)) (hpa : W.heap.size ≤ pa) (hpx : W.heap.size ≤ px) (hne : px ≠ pa)
    (hb : w.heap[px]? = some (.cells (ixC pa ⟨a, p, 0, [], 0, [], 0, 0, 0⟩ (.slice none 0 0) (.slice none 0 0)) 97 (0, 0))) :
    IS W w ⟨px, pa, []⟩ (fun b => if b = px then some .ix else if b = pa then some .ar else none) ⟨a, p, 0, [], 0, [], 0, 0, 0⟩ where
  arena := by
    have e : (fun b => (if b = px then some Ow.ix else if b = pa then some .ar else none) = some Ow.ar) = fun b => b = pa := by
      funext b
      by_cases h1 : b = px
      · subst h1; simp [hne]
      · by_cases h2 : b = pa
        · subst h2; simp [h1]
        · simp [h1, h2]
    show OAt w _ _ (fun b => (if b = px then some Ow.ix else if b = pa then some .ar else none) = some Ow.ar)
    rw [e]; exact hA
  below := hB
  mine := fun b o ho => by
    by_cases h1 : b = px
    · subst h1; exact ⟨hpx, (Array.getElem?_eq_some_iff.1 hb).1⟩
    · by_cases h2 : b = pa
      · subst h2; exact ⟨hpa, hA.lt _ rfl⟩
      · simp [h1, h2] at ho
  ix := ⟨_, _, hb, World.ownsRow_nil _ _ _ _, by simp [Value.ownBlock], World.ownsRow_nil _ _ _ _, by simp [Value.ownBlock]⟩
  ownix := by simp
  ownth := by simp
  len := rfl
  nodup := List.nodup_nil
  ths := by simp
/-- One thread more: its block, the append, and the store of the row's slice. -/
theorem IS.addth {W w : World} {P : Pl} {own : Own} {S : Ix} (hI : IS W w P own S) {tv ov : Value} (hx : XAt w own P S tv ov) {pt : Nat} (hpt : w.heap[pt]? = some (.cells (thC P.px th0 .nilFunc (.slice none 0 0)) 93 (0, 0))) (hfree : own pt = none) (hptW : W.heap.size ≤ pt)
    {v' : Value} {w2 : World} (hown : w2.ownsRow 0 90 1 v' (P.pts.length + 1) (ptrs (P.pts ++ [pt]))) (hg : w.grownBy w2 tv.ownBlock) (hl : ∀ b, v'.ownBlock = some b → tv.ownBlock = some b ∨ b = w.heap.size) :
    ∃ own', IS W (w2.setCell ⟨P.px, 7, none⟩ v') ⟨P.px, P.pa, P.pts ++ [pt]⟩ own' { S with ths := S.ths ++ [th0] } ∧ w.heap.size ≤ (w2.setCell ⟨P.px, 7, none⟩ v').heap.size ∧ ∀ b, b < w.heap.size → own b = none → b ≠ pt → own' b = none ∧ (w2.setCell ⟨P.px, 7, none⟩ v').heap[b]? = w.heap[b]? := by
  have hptl : pt < w.heap.size := (Array.getElem?_eq_some_iff.1 hpt).1
  have hlt2 : ∀ b, v'.ownBlock = some b → b < w2.heap.size := fun b hb => (hown.lt b hb).2
  have hcase : ∀ b, v'.ownBlock = some b → own b = some .row ∨ (own b = none ∧ b = w.heap.size) := fun b hb => (hl b hb).imp (hx.rowo b) (fun e => ⟨hI.none_new (by omega), e⟩)
  have hkeep : ∀ b o, own b = some o → o ≠ .row → o ≠ .ix → (w2.setCell ⟨P.px, 7, none⟩ v').heap[b]? = w.heap[b]? := fun b o ho h1 h2 => by
    rw [setCell_other _ (by rintro rfl; rw [hI.ownix] at ho; exact h2 (Option.some.inj ho).symm)]
    exact hg.block b (hI.mine b o ho).2 (fun e => by have := hx.rowo b e.symm; rw [ho] at this; exact h1 (Option.some.inj this))
  have hfr : ∀ b, own b = none → b < w.heap.size → (w2.setCell ⟨P.px, 7, none⟩ v').heap[b]? = w.heap[b]? := fun b ho hb => by
    rw [setCell_other _ (by rintro rfl; rw [hI.ownix] at ho; cases ho)]
    exact hg.block b hb (fun e => by have := hx.rowo b e.symm; rw [ho] at this; cases this)
  have hpx : w2.heap[P.px]? = some (.cells (ixC P.pa S tv ov) 97 (0, 0)) := by
    rw [hg.block P.px hI.px_lt (fun e => by have := hx.rowo _ e.symm; rw [hI.ownix] at this; cases this)]; exact hx.blk
  have hsz : (w2.setCell ⟨P.px, 7, none⟩ v').heap.size = w2.heap.size := by simp [World.setCell]
  let own' : Own := fun b => if v'.ownBlock = some b then some .row else if own b = some .row then none else if b = pt then some .th else own b
  have npt : ¬ v'.ownBlock = some pt := fun e => by
    rcases hcase pt e with h2 | ⟨_, h2⟩
    · rw [hfree] at h2; cases h2
    · omega
  have ho' : ∀ b o, own b = some o → o ≠ .row → own' b = some o := fun b o ho h1 => by
    have n1 : ¬ v'.ownBlock = some b := fun e => by
      rcases hcase b e with h2 | ⟨h2, _⟩ <;> rw [ho] at h2
      · exact h1 (Option.some.inj h2)
      · cases h2
    show (if v'.ownBlock = some b then some Ow.row else if own b = some .row then none else if b = pt then some .th else own b) = _
    rw [if_neg n1, if_neg (by rw [ho]; simpa using h1), if_neg (by rintro rfl; rw [hfree] at ho; cases ho), ho]
  have hopt : own' pt = some .th := by
    show (if v'.ownBlock = some pt then some Ow.row else if own pt = some .row then none else if pt = pt then some .th else own pt) = _
    rw [if_neg npt, if_neg (by rw [hfree]; simp), if_pos rfl]
  have hK : ∀ j, Keeps j w own (w2.setCell ⟨P.px, 7, none⟩ v') own' := fun j b hb => by
    rcases hb with hb | hb
    · exact ⟨(ho' b _ hb (by decide)).trans hb.symm, hkeep b _ hb (by decide) (by decide)⟩
    · exact ⟨(ho' b _ hb (by simp)).trans hb.symm, hkeep b _ hb (by simp) (by simp)⟩
  have hnp : pt ∉ P.pts := fun hm => by have := hI.ownth pt hm; rw [hfree] at this; cases this
  refine ⟨own', ⟨?_, ?_, ?_, ⟨v', ov, ?_, ?_, ?_, ?_, ?_⟩, ho' _ _ hI.ownix (by decide), fun p hp => ?_, ?_, ?_, ?_⟩, by rw [hsz]; exact hg.size, fun b hb ho hne => ⟨?_, hfr b ho hb⟩⟩
  · have e : (fun b => own' b = some Ow.ar) = fun b => own b = some .ar := by
      funext b
      by_cases ha : own b = some .ar
      · rw [ho' b _ ha (by decide), ha]
      · have : own' b ≠ some .ar := by
          show (if v'.ownBlock = some b then some Ow.row else if own b = some .row then none else if b = pt then some .th else own b) ≠ _
          split
          · simp
          · split
            · simp
            · split
              · simp
              · exact ha
        simp [ha, this]
    show OAt _ _ _ (fun b => own' b = some Ow.ar)
    rw [e]
    exact hI.arena.same (fun b hb => hkeep b _ hb (by decide) (by decide)) (by rw [hsz]; exact hg.size)
  · exact (hI.below.grown hg hI.below.size (fun k hk => (hI.mine k _ (hx.rowo k hk)).1)).setCell (hI.mine P.px _ hI.ownix).1 _
  · intro b o ho
    have ho : (if v'.ownBlock = some b then some Ow.row else if own b = some .row then none else if b = pt then some .th else own b) = some o := ho
    rw [hsz]
    by_cases n1 : v'.ownBlock = some b
    · refine ⟨?_, hlt2 b n1⟩
      rcases hcase b n1 with h2 | ⟨_, h2⟩
      · exact (hI.mine b _ h2).1
      · rw [h2]; exact hI.below.size
    · rw [if_neg n1] at ho
      by_cases n2 : own b = some .row
      · rw [if_pos n2] at ho; cases ho
      · rw [if_neg n2] at ho
        by_cases n3 : b = pt
        · subst n3; exact ⟨hptW, Nat.lt_of_lt_of_le hptl hg.size⟩
        · rw [if_neg n3] at ho; exact ⟨(hI.mine b o ho).1, Nat.lt_of_lt_of_le (hI.mine b o ho).2 hg.size⟩
  · rw [heap_setCell_same _ P.px 7 _ _ v' hpx]; rfl
  · show (w2.setCell ⟨P.px, 7, none⟩ v').ownsRow 0 90 1 v' (P.pts ++ [pt]).length _
    rw [List.length_append]
    refine ownsRow_same hown (fun b hb => setCell_other _ ?_)
    rintro rfl
    rcases hcase _ hb with h2 | ⟨h2, _⟩ <;> rw [hI.ownix] at h2 <;> cases h2
  · exact fun b hb => by
      show (if v'.ownBlock = some b then some Ow.row else if own b = some .row then none else if b = pt then some .th else own b) = _
      rw [if_pos hb]
  · exact ownsRow_same hx.ord (fun b hb => hkeep b _ (hx.ordo b hb) (by decide) (by decide))
  · exact fun b hb => ho' b _ (hx.ordo b hb) (by decide)
  · rcases List.mem_append.1 hp with hp | hp
    · exact ho' _ _ (hI.ownth p hp) (by decide)
    · obtain rfl := List.mem_singleton.1 hp
      exact hopt
  · simp [hI.len]
  · exact List.nodup_append.2 ⟨hI.nodup, by simp, fun x hx y hy e => by simp at hy; subst e; subst hy; exact hnp hx⟩
  · intro j q hq
    by_cases hj : j < P.pts.length
    · have hq' : P.pts[j]? = some q := by simpa [List.getElem?_append_left hj] using hq
      obtain ⟨nv, pv, ht⟩ := hI.ths j q hq'
      have e : ({ S with ths := S.ths ++ [th0] } : Ix).th j = S.th j := by
        simp [Ix.th, List.getD_eq_getElem?_getD, List.getElem?_append_left (by rw [hI.len]; exact hj : j < S.ths.length)]
      rw [e]
      exact ⟨nv, pv, ht.keep2 (hkeep q _ (hI.own_th hq') (by decide) (by decide)) (hK j)⟩
    · have hj2 : j = P.pts.length := by
        have := (List.getElem?_eq_some_iff.1 hq).1
        simp at this; omega
      subst hj2
      have hq' : pt = q := by simpa using hq
      subst hq'
      have e : ({ S with ths := S.ths ++ [th0] } : Ix).th P.pts.length = th0 := by
        simp [Ix.th, List.getD_eq_getElem?_getD, ← hI.len]
      rw [e]
      exact ⟨.nilFunc, .slice none 0 0, (hfr pt hfree hptl).trans hpt, rfl, PV.nil _ _⟩
  · have n1 : ¬ v'.ownBlock = some b := fun e => by
      rcases hcase b e with h2 | ⟨_, h2⟩
      · rw [ho] at h2; cases h2
      · omega
    show (if v'.ownBlock = some b then some Ow.row else if own b = some .row then none else if b = pt then some .th else own b) = _
    rw [if_neg n1, if_neg (by rw [ho]; simp), if_neg hne, ho]
set_option maxRecDepth 100000 in
set_option maxHeartbeats 4000000 in
theorem xmay_nil (w : World) : Calls Tryz.prog 48 #[.slice none 0 0] w fun e w' => e = .returned (.bool true) ∧ w = w' := by
  go_enter Tryz.func48, Tryz.ntmps48
  go_wp2_with fail
  refine wp_loop_rounds 1 ?_
  rw [rounds_succ]
  go_wp2_with fail
  go_ret
  exact ⟨rfl, rfl⟩
set_option maxRecDepth 100000 in
set_option maxHeartbeats 4000000 in
theorem xbuilt_nil (po : Option Addr) (w : World) : Calls Tryz.prog 50 #[.pointer po, .slice none 0 0] w fun e w' => e = .returned (.tuple #[.int .i64 0, .int .i64 0]) ∧ w = w' := by
  go_enter Tryz.func50, Tryz.ntmps50
  go_wp2_with fail
  go_ret2
  exact ⟨rfl, rfl⟩
end Go.Proofs.YtghjnkfocjjlnaaGreat
end
section
namespace Go.Proofs.YtghjnkfocjjlnaaGreat
set_option maxRecDepth 100000
open Go.RowKit Go.Proofs.YtghjnkfocjjlnaaGreatW.PrintWords Go.Proofs.YtghjnkfocjjlnaaGreatW.PrintLast
set_option linter.unusedVariables false
set_option linter.unusedSimpArgs false
def newX0 (cells : Int) (p : PolR) : Ix := ⟨newA cells, clampP p, 0, [], 0, [], 0, 0, 0⟩
def newX (n : Nat) (cells : Int) (p : PolR) : Ix := { (newX0 cells p).cellOf 0 |>.2.2.2 with root := ((newX0 cells p).cellOf 0).1, ths := List.replicate n th0 }
/-- What stood there is nobody's, and as it was. -/
def FN (w : World) (w' : World) (own' : Own) : Prop := w.heap.size ≤ w'.heap.size ∧ ∀ b, b < w.heap.size → own' b = none ∧ w'.heap[b]? = w.heap[b]?
def New1 (W w : World) (n : Nat) (cells : Int) (p : PolR) (e : Ending) (w' : World) : Prop :=
  ∃ P own', e = .returned (.tuple #[pt_ P.px, .int .i64 0]) ∧ P.pts.length = n ∧ IS W w' P own' (newX n cells p) ∧ FN w w' own'
theorem cellOf_ths (S : Ix) (t : Int) : (S.cellOf t).2.2.2.ths = S.ths := by
  unfold Ix.cellOf
  split
  · rfl
  · split <;> rfl
def LN (W w : World) (px pa : Nat) (S1 : Ix) (k : Nat) (wr : World) : Prop := ∃ pts own', pts.length = k ∧ IS W wr ⟨px, pa, pts⟩ own' { S1 with ths := List.replicate k th0 } ∧ FN w wr own'
theorem info_thp : (Tryz.prog.info? 90).map (fun i => (i.zero, i.size, i.bytes)) = some (some (.pointer none), 1, 8) := by kernel_rfl
theorem FN.trans {w w1 w2 : World} {o1 o2 : Own} (h : FN w w1 o1) (k : FK w1 o1 w2 o2) : FN w w2 o2 :=
  ⟨Nat.le_trans h.1 k.1, fun b hb => ⟨(k.2 b (Nat.lt_of_lt_of_le hb h.1) (h.2 b hb).1).1, ((k.2 b (Nat.lt_of_lt_of_le hb h.1) (h.2 b hb).1).2).trans (h.2 b hb).2⟩⟩
theorem Run.root {W w0 w : World} {P : Pl} {own0 own : Own} {S : Ix} (h : Run W P w0 own0 S w own) (c : Int) : Run W P w0 own0 { S with root := c } (w.setCell ⟨P.px, 6, none⟩ (.int .i64 c)) own :=
  ⟨h.is.index (S' := { S with root := c }) rfl rfl rfl (fun tv ov hb => by rw [heap_setCell_same w P.px 6 _ _ _ hb]; rfl) (h.is.below.setCell (h.is.mine P.px _ h.is.ownix).1 _) (by simp [World.setCell]) (fun b hb => setCell_other _ hb), h.fk.set _ (by rw [h.is.ownix]; simp)⟩
set_option maxRecDepth 100000 in
set_option maxHeartbeats 4000000 in
theorem xnew_any {W w : World} (hB : Below W.heap.size W w) (n : Nat) (hn1 : 1 ≤ n) (hn6 : n ≤ 6) (cells : Int) (hc : 300 ≤ cells) (hc2 : cells ≤ 60000) (p : PolR) (he : ((newX0 cells p).cellOf 0).2.2.1 = 0) :
    Calls Tryz.prog 36 #[.int .i64 (n : Int), .int .i64 cells, .agg #[.int .i64 p.high, .int .i64 p.low, .int .i64 p.cont, .int .i64 p.uncont, .int .i64 p.multi], .slice none 0 0] w (New1 W w n cells p) := by
  have hB0 := Lib.hid hB
  clear hB
  have n0 : ¬ ((n : Int) < 1) := by omega
  have n1 : ¬ (6 < (n : Int)) := by omega
  have n2 : ¬ (cells < 0) := by omega
  have n3 : ¬ (60000 < cells) := by omega
  have n4 : ¬ (cells < 300) := by omega
  have E0 := Lib.hid (heap_alloc_new w (.cells #[.int .i64 p.high, .int .i64 p.low, .int .i64 p.cont, .int .i64 p.uncont, .int .i64 p.multi] 24))
  have HE := Lib.hid he
  clear he
  go_enter Tryz.func36, Tryz.ntmps36
  go_wp2_with fail
  refine (xmay_nil _).mono ?_
  rintro e w' ⟨rfl, rfl⟩
  go_wp2_with fail
  have cn := new_any cells (w.alloc (.cells #[.int .i64 p.high, .int .i64 p.low, .int .i64 p.cont, .int .i64 p.uncont, .int .i64 p.multi] 24)).drew
  rw [show (w.alloc (.cells #[.int .i64 p.high, .int .i64 p.low, .int .i64 p.cont, .int .i64 p.uncont, .int .i64 p.multi] 24)).drew.heap.size = w.heap.size + 1 from by show (w.alloc (.cells #[.int .i64 p.high, .int .i64 p.low, .int .i64 p.cont, .int .i64 p.uncont, .int .i64 p.multi] 24)).heap.size = _; simp] at cn
  have CN := Lib.hid cn
  clear cn n0 n1 n2 n3 n4
  refine start_ (n := 7) (S := fun w' => w'.cell? ⟨w.heap.size, 0, none⟩ = some (.int .i64 p.high) ∧ w'.cell? ⟨w.heap.size, 1, none⟩ = some (.int .i64 p.low) ∧ w'.cell? ⟨w.heap.size, 2, none⟩ = some (.int .i64 p.cont) ∧ w'.cell? ⟨w.heap.size, 3, none⟩ = some (.int .i64 p.uncont) ∧ w'.cell? ⟨w.heap.size, 4, none⟩ = some (.int .i64 p.multi)) (ds := [5]) (bz 7 0).toArray (by kernel_rfl) rfl rfl ⟨(drew_cell (cell_blk (i := 0) E0.out rfl)), (drew_cell (cell_blk (i := 1) E0.out rfl)), (drew_cell (cell_blk (i := 2) E0.out rfl)), (drew_cell (cell_blk (i := 3) E0.out rfl)), (drew_cell (cell_blk (i := 4) E0.out rfl))⟩ (fun hHeld => ?_)
  refine pure_ (i := 0) (N := some 43) (v := ?_) (a' := ?_) (bz 7 1).toArray rfl rfl (by kernel_rfl) (fun _ _ _ h => h) (Or.inl ⟨by rfl, ?_⟩) ?_ ?_
  rotate_left
  · intro w'
    go_simp
    with_reducible rfl
  rotate_left
  · simp only [Act.put, sqA, sqZ, sqS, i64_w, i32_w]
    rfl
  refine take_ (i := 2) (N := some 45) (v := ?_) (a' := ?_) (bz 7 5).toArray rfl rfl (by kernel_rfl) (fun _ _ _ h => h) (Or.inl ⟨by rfl, ?_⟩) hHeld ?_ ?_
  rotate_left
  · rintro w' ⟨s0, s1, s2, s3, s4⟩
    go_simp
    with_reducible rfl
  rotate_left
  · simp only [Act.put, sqA, sqZ, sqS, i64_w, i32_w]
    rfl
  refine one_ (i := 1) (N := some 44) (bz 7 7).toArray rfl rfl (by kernel_rfl) (by decide) (fun K hK => ?_)
  refine goes_ Tryz.func49 (by kernel_rfl) rfl #[.int .i64 cells] (by rfl) rfl rfl (by simp only [List.map_toArray, List.map_cons, List.map_nil]; rfl) ?_
  with_reducible refine (CN.out).mono ?_
  rintro e w3 ⟨rfl, o3, b3⟩
  have E3 := Lib.hid ((b3.block w.heap.size (by simp)).trans E0.out)
  have B3 := Lib.hid ((((Below.refl w.heap.size w).alloc (Nat.le_refl _) (.cells #[.int .i64 p.high, .int .i64 p.low, .int .i64 p.cont, .int .i64 p.uncont, .int .i64 p.multi] 24)).drew).trans (b3.mono (by simp)))
  have O3 := Lib.hid o3
  have hz3 := o3.lt _ rfl
  clear o3 b3
  refine ⟨_, rfl, ?_⟩
  refine hK.out _ _ ⟨(cell_blk (i := 0) E3.out rfl), (cell_blk (i := 1) E3.out rfl), (cell_blk (i := 2) E3.out rfl), (cell_blk (i := 3) E3.out rfl), (cell_blk (i := 4) E3.out rfl)⟩ ?_
  clear hHeld
  intro hHeld
  clear hK K
  refine norm_ (a' := ?_) ?_ ?_
  rotate_left
  · show Act.put _ (some 44) _ = _
    simp only [Act.put, sqA, sqZ, sqS, i64_w, i32_w]
    rfl
  refine one_ (i := 3) (N := some 46) (bz 7 15).toArray rfl rfl (by kernel_rfl) (by decide) (fun K hK => ?_)
  refine goes_ Tryz.func14 (by kernel_rfl) rfl #[.agg #[.int .i64 p.high, .int .i64 p.low, .int .i64 p.cont, .int .i64 p.uncont, .int .i64 p.multi]] (by rfl) rfl rfl (by simp only [List.map_toArray, List.map_cons, List.map_nil]; rfl) ?_
  with_reducible refine (xclamp_any p _).mono ?_
  rintro e w4 ⟨rfl, b4⟩
  have E4 := Lib.hid ((b4.block w.heap.size (by omega)).trans E3.out)
  have B4 := Lib.hid (B3.out.trans (b4.mono B3.out.size))
  have O4 := Lib.hid (O3.out.below b4)
  have hz4 : w.heap.size + 1 < w4.heap.size := Nat.lt_of_lt_of_le hz3 b4.size
  clear b4
  refine ⟨_, rfl, ?_⟩
  refine hK.out _ _ ⟨(cell_blk (i := 0) E4.out rfl), (cell_blk (i := 1) E4.out rfl), (cell_blk (i := 2) E4.out rfl), (cell_blk (i := 3) E4.out rfl), (cell_blk (i := 4) E4.out rfl)⟩ ?_
  clear hHeld
  intro hHeld
  clear hK K
  refine norm_ (a' := ?_) ?_ ?_
  rotate_left
  · show Act.put _ (some 46) _ = _
    simp only [Act.put, sqA, sqZ, sqS, i64_w, i32_w]
    rfl
  refine pure_ (i := 4) (N := some 47) (v := ?_) (a' := ?_) (bz 7 31).toArray rfl rfl (by kernel_rfl) (fun _ _ _ h => h) (Or.inl ⟨by rfl, ?_⟩) ?_ ?_
  rotate_left
  · intro w'
    go_simp
    with_reducible rfl
  rotate_left
  · simp only [Act.put, sqA, sqZ, sqS, i64_w, i32_w]
    rfl
  refine last_ (i := 5) (N := some 48) (bz 7 63).toArray rfl rfl (by kernel_rfl) (by decide) (fun K hK => ?_)
  refine value_ (w1 := ?_) (v := ?_) (by rfl) rfl ?_ ?_
  rotate_left 2
  · go_simp
    constructor
    · rfl
    · rfl
  refine hK.out _ _ ?_
  clear hK K
  refine norm_ (a' := ?_) ?_ ?_
  rotate_left
  · show Act.put _ (some 48) _ = _
    simp only [Act.put, sqA, sqZ, sqS, i64_w, i32_w]
    rfl
  refine pure_ (i := 6) (N := some 10) (v := ?_) (a' := ?_) (bz 7 127).toArray rfl rfl (by kernel_rfl) (fun _ _ _ h => h) (Or.inl ⟨by rfl, ?_⟩) ?_ ?_
  rotate_left
  · intro w'
    go_simp
    with_reducible rfl
  rotate_left
  · simp only [Act.put, sqA, sqZ, sqS, i64_w, i32_w]
    rfl
  refine done_ (by kernel_rfl) ?_
  have hsW := hB0.out.size
  have bw4 := Lib.hid ((hB0.out.trans (B4.out.mono hsW)).alloc (by have h1 := B4.out.size; omega) (.cells #[pt_ (w.heap.size + 1), .int .i64 (clampP p).high, .int .i64 (clampP p).low, .int .i64 (clampP p).cont, .int .i64 (clampP p).uncont, .int .i64 (clampP p).multi, .int .i64 0, .slice none 0 0, .int .i64 0, .slice none 0 0, .int .i64 0, .int .i64 0, .int .i64 0] 97))
  have is0 : IS W (w4.alloc (.cells #[pt_ (w.heap.size + 1), .int .i64 (clampP p).high, .int .i64 (clampP p).low, .int .i64 (clampP p).cont, .int .i64 (clampP p).uncont, .int .i64 (clampP p).multi, .int .i64 0, .slice none 0 0, .int .i64 0, .slice none 0 0, .int .i64 0, .int .i64 0, .int .i64 0] 97)) ⟨w4.heap.size, w.heap.size + 1, []⟩ (fun b => if b = w4.heap.size then some .ix else if b = w.heap.size + 1 then some .ar else none) (newX0 cells p) := IS.start (W := W) (w := w4.alloc (.cells #[pt_ (w.heap.size + 1), .int .i64 (clampP p).high, .int .i64 (clampP p).low, .int .i64 (clampP p).cont, .int .i64 (clampP p).uncont, .int .i64 (clampP p).multi, .int .i64 0, .slice none 0 0, .int .i64 0, .slice none 0 0, .int .i64 0, .int .i64 0, .int .i64 0] 97)) (px := w4.heap.size) (pa := w.heap.size + 1) (a := newA cells) (p := clampP p) bw4.out (O4.out.alloc _) (by omega) (by have h1 := B4.out.size; omega) (by omega) (heap_alloc_new w4 _)
  have fn0 : FN w (w4.alloc (.cells #[pt_ (w.heap.size + 1), .int .i64 (clampP p).high, .int .i64 (clampP p).low, .int .i64 (clampP p).cont, .int .i64 (clampP p).uncont, .int .i64 (clampP p).multi, .int .i64 0, .slice none 0 0, .int .i64 0, .slice none 0 0, .int .i64 0, .int .i64 0, .int .i64 0] 97)) (fun b => if b = w4.heap.size then some .ix else if b = w.heap.size + 1 then some .ar else none) := ⟨by have h1 := B4.out.size; simp; omega, fun b hb => ⟨by show (if b = w4.heap.size then some Ow.ix else if b = w.heap.size + 1 then some .ar else none) = none; rw [if_neg (by have h1 := B4.out.size; omega), if_neg (by omega)], ((B4.out.alloc B4.out.size (.cells #[pt_ (w.heap.size + 1), .int .i64 (clampP p).high, .int .i64 (clampP p).low, .int .i64 (clampP p).cont, .int .i64 (clampP p).uncont, .int .i64 (clampP p).multi, .int .i64 0, .slice none 0 0, .int .i64 0, .slice none 0 0, .int .i64 0, .int .i64 0, .int .i64 0] 97)).block b hb)⟩⟩
  clear bw4 hz4 hz3
  generalize (fun b => if b = w4.heap.size then some Ow.ix else if b = w.heap.size + 1 then some Ow.ar else none) = own0 at is0 fn0
  generalize w4.alloc (.cells #[pt_ (w.heap.size + 1), .int .i64 (clampP p).high, .int .i64 (clampP p).low, .int .i64 (clampP p).cont, .int .i64 (clampP p).uncont, .int .i64 (clampP p).multi, .int .i64 0, .slice none 0 0, .int .i64 0, .slice none 0 0, .int .i64 0, .int .i64 0, .int .i64 0] 97) = w5 at is0 fn0 ⊢
  generalize w4.heap.size = px at is0 ⊢
  have R0 := Lib.hid (Run.begin is0)
  have FN0 := Lib.hid fn0
  clear is0 fn0
  have cx0 : w5.cell? ⟨px, 0, none⟩ = some (pt_ (w.heap.size + 1)) := R0.out.is.xa
  go_wp2_with fail
  refine (xbuilt_nil _ _).mono ?_
  rintro e w' ⟨rfl, rfl⟩
  go_wp2_with fail
  refine (xcellOf_any (P := ⟨px, w.heap.size + 1, []⟩) R0.out.is 0).mono ?_
  rintro e w6 ⟨rfl, o6, r6, k6⟩
  clear cx0
  obtain ⟨CE, hCE⟩ : ∃ C, C = (newX0 cells p).cellOf 0 := ⟨_, rfl⟩
  have he := HE.out
  rw [← hCE] at r6 he ⊢
  have HCE := Lib.hid hCE
  have q0 : (CE.2.2.1 == 0) = true := beq_iff_eq.2 he
  have q1 : (CE.2.2.1 != 0) = false := by rw [bne, q0]; rfl
  clear he hCE HE
  have R6 := Lib.hid r6
  have cx6 : w6.cell? ⟨px, 6, none⟩ = some (.int .i64 CE.2.2.2.root) := R6.out.is.ixc (k := 6) (fun _ _ => rfl)
  have fx6 : w6.frozen? ⟨px, 6, none⟩ = false := by obtain ⟨tv, ov, hx⟩ := R6.out.is.ix; exact free_blk hx.blk
  have hlx : px < w6.heap.size := R6.out.is.px_lt
  have R7 := Lib.hid (R6.out.root CE.1)
  clear r6 k6
  go_wp2_with fail
  clear cx6 fx6 hlx q0 q1
  have hths : CE.2.2.2.ths = [] := by rw [HCE.out]; exact cellOf_ths _ _
  have HBEG := Lib.hid (show LN W w px (w.heap.size + 1) { CE.2.2.2 with root := CE.1 } 0 (w6.setCell ⟨px, 6, none⟩ (.int .i64 CE.1)) from ⟨[], o6, rfl, by have h1 := R7.out.is; rw [show ({ ({ CE.2.2.2 with root := CE.1 } : Ix) with ths := List.replicate 0 th0 } : Ix) = { CE.2.2.2 with root := CE.1 } by show ({ CE.2.2.2 with root := CE.1, ths := [] } : Ix) = _; rw [← hths]]; exact h1, FN.trans FN0.out R7.out.fk⟩)
  clear hths R6 R7 R0 FN0
  go_loopw [75] (fun i wr => ∃ k : Nat, k ≤ n ∧ i = .int .i64 k ∧ Hid (LN W w px (w.heap.size + 1) { CE.2.2.2 with root := CE.1 } k wr)) (fun i _ => n - (intOf i).toNat)
  case atStart => exact ⟨0, Nat.zero_le _, rfl, HBEG⟩
  case round =>
    obtain ⟨k, hk, rfl, HL⟩ := hrel
    obtain ⟨pts, own1, hpl, is1, fn1⟩ := HL.out
    by_cases hlt : k < n
    · obtain ⟨tv, ov, hx⟩ := is1.ix
      have hsl : ∃ ad m c, tv = .slice ad m c := by
        rcases hx.row.2 with ⟨rfl, _⟩ | ⟨g, cap, cur, rfl, _⟩
        · exact ⟨_, _, _, rfl⟩
        · exact ⟨_, _, _, rfl⟩
      obtain ⟨tad, tm, tc, rfl⟩ := hsl
      have cx7 : wr.cell? ⟨px, 7, none⟩ = some (.slice tad tm tc) := cell_blk (i := 7) hx.blk rfl
      have bal := Lib.hid (((Below.refl wr.heap.size wr).alloc (Nat.le_refl _) (.cells #[pt_ px, .bool false, .int .i64 0, .int .i64 0, .int .i64 0, .int .i64 0, .int .i64 0, .bool false, .nilFunc, .bool false, .int .i64 0, .bool false, .int .i64 0, .int .i64 0, .int .i64 0, .slice none 0 0] 93)).alloc (by simp) (.cells #[pt_ wr.heap.size] 90))
      have IS2 := Lib.hid (is1.later bal.out)
      have HX2 := Lib.hid (hx.keep (w' := (wr.alloc (.cells #[pt_ px, .bool false, .int .i64 0, .int .i64 0, .int .i64 0, .int .i64 0, .int .i64 0, .bool false, .nilFunc, .bool false, .int .i64 0, .bool false, .int .i64 0, .int .i64 0, .int .i64 0, .slice none 0 0] 93)).alloc (.cells #[pt_ wr.heap.size] 90)) is1.ownix (fun b o ho _ => ⟨ho, bal.out.block b (is1.mine b o ho).2⟩))
      have HPT := Lib.hid (show ((wr.alloc (.cells #[pt_ px, .bool false, .int .i64 0, .int .i64 0, .int .i64 0, .int .i64 0, .int .i64 0, .bool false, .nilFunc, .bool false, .int .i64 0, .bool false, .int .i64 0, .int .i64 0, .int .i64 0, .slice none 0 0] 93)).alloc (.cells #[pt_ wr.heap.size] 90)).heap[wr.heap.size]? = some (.cells (thC px th0 .nilFunc (.slice none 0 0)) 93 (0, 0)) from (((Below.refl _ _).alloc (Nat.le_refl _) (.cells #[pt_ wr.heap.size] 90)).block wr.heap.size (by simp)).trans (heap_alloc_new wr (.cells #[pt_ px, .bool false, .int .i64 0, .int .i64 0, .int .i64 0, .int .i64 0, .int .i64 0, .bool false, .nilFunc, .bool false, .int .i64 0, .bool false, .int .i64 0, .int .i64 0, .int .i64 0, .slice none 0 0] 93)))
      have HQ := Lib.hid (show ((wr.alloc (.cells #[pt_ px, .bool false, .int .i64 0, .int .i64 0, .int .i64 0, .int .i64 0, .int .i64 0, .bool false, .nilFunc, .bool false, .int .i64 0, .bool false, .int .i64 0, .int .i64 0, .int .i64 0, .slice none 0 0] 93)).alloc (.cells #[pt_ wr.heap.size] 90)).heap[wr.heap.size + 1]? = some (.cells #[pt_ wr.heap.size] 90 (0, 0)) from by have h1 := heap_alloc_new (wr.alloc (.cells #[pt_ px, .bool false, .int .i64 0, .int .i64 0, .int .i64 0, .int .i64 0, .int .i64 0, .bool false, .nilFunc, .bool false, .int .i64 0, .bool false, .int .i64 0, .int .i64 0, .int .i64 0, .slice none 0 0] 93)) (.cells #[pt_ wr.heap.size] 90); simpa using h1)
      have HFR := Lib.hid (is1.none_new (Nat.le_refl wr.heap.size))
      have hpx : px < wr.heap.size := is1.px_lt
      have hwr := is1.below.size
      have FN1 := Lib.hid fn1
      have HPL := Lib.hid hpl
      have IS1 := Lib.hid is1
      clear is1 fn1 hx hpl HL
      go_wp2_with (at_builtin; refine wp_app1 (cs := #[pt_ wr.heap.size]) rfl (.tmp 81) (.tmp 85) rfl Tryz.underlying95 info_thp rfl (by decide) (by decide) rfl rfl HX2.out.row HQ.out rfl (fun u hu => by have hu : u ∈ [pt_ wr.heap.size] := hu; rw [List.mem_singleton] at hu; subst hu; rfl) (by rw [show (⟨px, w.heap.size + 1, pts⟩ : Pl).pts = pts from rfl, HPL.out]; omega) ?_; intro g9 cap9 w9 ho9 hg9 hl9; have HO9 := Lib.hid ho9; have HG9 := Lib.hid hg9; have HL9 := Lib.hid hl9; have hb9 := Lib.hid ((hg9.block px (by simp; omega) (fun e => by have h1 := HX2.out.rowo _ e.symm; have h2 := IS1.out.ownix; rw [show (⟨px, w.heap.size + 1, pts⟩ : Pl).px = px from rfl] at h2; rw [h1] at h2; cases h2)).trans HX2.out.blk); have fx7 := free_blk (i := 7) hb9.out; have cx7b := cell_blk (i := 7) hb9.out rfl; have lx7 := (Array.getElem?_eq_some_iff.1 hb9.out).1; clear ho9 hg9 hl9)
      have ho9x : w9.ownsRow 0 90 1 (.slice (some ⟨g9, 0, none⟩) (pts.length + 1) cap9) (pts.length + 1) (ptrs (pts ++ [wr.heap.size])) := by have h := HO9.out; rw [show ptrs (pts ++ [wr.heap.size]) = ptrs pts ++ [pt_ wr.heap.size] by simp [ptrs]]; exact h
      have hrow := Lib.hid (IS.addth (v' := .slice (some ⟨g9, 0, none⟩) (pts.length + 1) cap9) IS2.out HX2.out HPT.out HFR.out hwr ho9x HG9.out (fun b hb => by have h1 : g9 = b := Option.some.inj hb; rw [← h1]; exact HL9.out))
      clear fx7 cx7b lx7 cx7
      go_roundw
      case rel =>
        obtain ⟨own3, is3, hs3, hf3⟩ := hrow.out
        refine ⟨k + 1, by omega, by go_num, Lib.hid ⟨pts ++ [wr.heap.size], own3, by simp [HPL.out], ?_, ?_⟩⟩
        · rw [List.replicate_succ']; exact is3
        · have b1 := bal.out.size
          refine ⟨Nat.le_trans (Nat.le_trans FN1.out.1 b1) hs3, fun b hb => ?_⟩
          have h1 := FN1.out.2 b hb
          have h2 := hf3 b (by have h3 := FN1.out.1; omega) h1.1 (by have h3 := FN1.out.1; omega)
          exact ⟨h2.1, h2.2.trans ((bal.out.block b (by have h3 := FN1.out.1; omega)).trans h1.2)⟩
      case measure => simp [intOf]; omega
    · have hkn : k = n := by omega
      subst hkn
      have IS1 := Lib.hid is1
      have FN1 := Lib.hid fn1
      have HPL := Lib.hid hpl
      clear is1 fn1 hpl HL hlt
      go_wp2_with fail
      go_ret2
      exact ⟨⟨px, w.heap.size + 1, pts⟩, own1, rfl, HPL.out, by unfold newX; rw [← HCE.out]; exact IS1.out, FN1.out⟩
end Go.Proofs.YtghjnkfocjjlnaaGreat
end
