/- The walk of the law ArenaNew. -/
import Derived.Test.YtbndhaocohomjaaHeavyW
import Derived.Test.YtbndhaocohomjaaGrow
namespace Go.Proofs.Ytbndhaocohomjaa
set_option maxRecDepth 100000
open Go.RowKit
set_option linter.unusedSimpArgs false
set_option linter.unusedVariables false

/-- An arena that begins with the record of kind 5 and the cell of v. -/
structure NewS (vals : List Int) (v : Int) (last : Nat) (A : Ar) : Prop where
  room : A.room = 1000
  slots : ∃ r, A.slots = ⟨5, vals⟩ :: ⟨0, [v]⟩ :: r
  len : A.slots.length = last
theorem NewS.kind {vals : List Int} {v : Int} {last : Nat} {A : Ar} (h : NewS vals v last A) : kindO (some A) 1 = 5 := by
  obtain ⟨r, hr⟩ := h.slots
  show (if 1 ≤ (1 : Int) ∧ (1 : Int) ≤ A.slots.length then (slotAt A 1).kind else 0) = 5
  rw [if_pos ⟨by omega, by rw [hr]; simp; omega⟩]
  simp [slotAt, hr]
theorem NewS.cell {vals : List Int} {v : Int} {last : Nat} {A : Ar} (h : NewS vals v last A) : isCell (some A) 2 = true ∧ holds A 2 = v := by
  obtain ⟨r, hr⟩ := h.slots
  refine ⟨decide_eq_true ⟨by omega, by rw [hr]; simp; omega, by simp [slotAt, hr]⟩, by simp [holds, slotAt, hr]⟩
theorem NewS.step {vals : List Int} {v : Int} {last : Nat} {A : Ar} (h : NewS vals v last A) : NewS vals v last (stepA A) := ⟨h.room, h.slots, h.len⟩
theorem NewS.load {vals : List Int} {v : Int} {last : Nat} {A : Ar} (h : NewS vals v last A) : loadO (some A) 2 = (v, some (stepA A)) := by
  simp only [loadO, h.cell.1, h.cell.2, if_true]
theorem NewS.once {vals : List Int} {v : Int} {last : Nat} {A : Ar} (h : NewS vals v last A) (hv : v ≠ 0) (x : Int) : onceO (some A) 2 x = (false, some (stepA A)) := by
  simp only [onceO, h.cell.1, h.cell.2, if_true]
  rw [if_neg (fun e => hv e.1)]
theorem NewS.val {vals : List Int} {v : Int} {last : Nat} {A : Ar} (h : NewS vals v last A) {j : Nat} (hj : j < vals.length) : valO (some A) 1 (j : Int) = vals[j] := by
  obtain ⟨r, hr⟩ := h.slots
  have hs : slotAt A 1 = ⟨5, vals⟩ := by simp [slotAt, hr]
  show (if 1 ≤ (1 : Int) ∧ (1 : Int) ≤ A.slots.length ∧ (slotAt A 1).kind ≠ 0 ∧ 0 ≤ (j : Int) ∧ (j : Int) < (slotAt A 1).vals.length then (slotAt A 1).vals.getD (j : Int).toNat 0 else 0) = _
  rw [hs]
  rw [if_pos ⟨by omega, by rw [hr]; simp; omega, by simp, by omega, by simp only []; omega⟩]
  simp only [Int.toNat_natCast]
  rw [List.getD_eq_getElem?_getD, List.getElem?_eq_getElem hj, Option.getD_some]
def NewP (vals : List Int) (v : Int) (last : Nat) (R : Int × Int × OA) : Prop :=
  ∃ A', R.2.2 = some A' ∧ ((R.2.1 = 0 ∧ R.1 = (last : Int) + 1 ∧ NewS vals v (last + 1) A') ∨ (R.2.1 ≠ 0 ∧ NewS vals v last A'))
theorem NewS.add {vals : List Int} {v : Int} {last : Nat} {A : Ar} (h : NewS vals v last A) (s : Slot) : NewP vals v last ((addA A s).1, (addA A s).2.1, some (addA A s).2.2) := by
  refine ⟨_, rfl, ?_⟩
  unfold addA
  by_cases hr : A.room - (A.slots.length : Int) = 0
  · rw [if_pos hr]
    exact .inr ⟨by simp, h⟩
  · rw [if_neg hr]
    obtain ⟨r, hr⟩ := h.slots
    exact .inl ⟨rfl, by rw [h.len], h.room, ⟨r ++ [s], by simp [hr]⟩, by simp [h.len]⟩
theorem NewS.make {vals : List Int} {v : Int} {last : Nat} {A : Ar} (h : NewS vals v last A) (k : Int) (l : List Int) : NewP vals v last (makeO (some A) k l) := by
  show NewP vals v last (if k < 1 ∨ 12 < (l.length : Int) then (0, 1, some A) else ((addA A ⟨k, l⟩).1, (addA A ⟨k, l⟩).2.1, some (addA A ⟨k, l⟩).2.2))
  by_cases hk : k < 1 ∨ 12 < (l.length : Int)
  · rw [if_pos hk]; exact ⟨A, rfl, .inr ⟨by simp, h⟩⟩
  · rw [if_neg hk]; exact h.add _
theorem NewS.more {vals : List Int} {v : Int} {last : Nat} {A : Ar} (h : NewS vals v last A) (x : Int) : NewP vals v last (cellO (some A) x) := h.add _
theorem new_1 {vals : List Int} (h : ¬ 12 < (vals.length : Int)) : makeO (some (newA 1000)) 5 vals = (1, 0, some ⟨1000, [⟨5, vals⟩], 0⟩) := by
  show (if (5 : Int) < 1 ∨ 12 < (vals.length : Int) then _ else _) = _
  rw [if_neg (by omega)]
  rfl
theorem new_2 (vals : List Int) : cellO (some ⟨1000, [⟨5, vals⟩], 0⟩) 0 = (2, 0, some ⟨1000, [⟨5, vals⟩, ⟨0, [0]⟩], 0⟩) := rfl
theorem new_3 (vals : List Int) {v : Int} (hv : v ≠ 0) : ∃ A, onceO (some ⟨1000, [⟨5, vals⟩, ⟨0, [0]⟩], 0⟩) 2 v = (true, some A) ∧ NewS vals v 2 A := by
  refine ⟨⟨1000, [⟨5, vals⟩, ⟨0, [v]⟩], wrap64 1⟩, ?_, rfl, ⟨[], rfl⟩, rfl⟩
  have h : isCell (some ⟨1000, [⟨5, vals⟩, ⟨0, [0]⟩], 0⟩) 2 = true := rfl
  have hh : holds ⟨1000, [⟨5, vals⟩, ⟨0, [0]⟩], 0⟩ 2 = 0 := rfl
  simp only [onceO, h, hh, if_true]
  rw [if_pos ⟨trivial, hv⟩]
  rfl

set_option maxRecDepth 100000 in
set_option maxHeartbeats 4000000 in
theorem arenaNew_walk (W : World) {ad : Option Addr} {c : Nat} {l : List Cl} (hl : CsIn W ad c l) {ad2 : Option Addr} {c2 : Nat} {vals : List Int} (hv : IntsArg W ad2 c2 vals) (v : Int) (hbv : -9223372036854775808 ≤ v ∧ v ≤ 9223372036854775807) :
    Calls Try.prog 6 #[.slice ad l.length c, .slice ad2 vals.length c2, .int .i64 v] W fun e w' => e = .returned (.bool true) ∧ Below W.heap.size W w' := by
  have hlenl : l.length ≤ 9223372036854775807 := by have := hl.room; have := hl.most; unfold maxLen at this; omega
  have HL := Lib.hid hl
  have HV := Lib.hid hv; clear hv
  go_enter Try.func6, Try.ntmps6
  go_wp2_with fail
  refine (heavy_any W hl).mono ?_
  rintro e w1 ⟨⟨h, rfl, hh⟩, b1⟩
  clear hl
  have B1 := Lib.hid b1; clear b1
  rcases hh with hpos | ⟨rfl, _⟩
  · go_wp2_with (go_at_call 16; refine (awake2_any W _ B1.out).mono ?_; rintro e wz ⟨rfl, bz⟩)
    go_ret
    exact ⟨rfl, bz⟩
  by_cases hlen : 12 < (vals.length : Int)
  · go_wp2_with (go_at_call 16; refine (awake2_any W _ B1.out).mono ?_; rintro e wz ⟨rfl, bz⟩)
    go_ret
    exact ⟨rfl, bz⟩
  by_cases hv0 : v = 0
  · subst hv0
    go_wp2_with (go_at_call 16; refine (awake2_any W _ B1.out).mono ?_; rintro e wz ⟨rfl, bz⟩)
    go_ret
    exact ⟨rfl, bz⟩
  have qv0 : (v == 0) = false := beq_eq_false_iff_ne.2 hv0
  go_wp2_with fail
  refine (new_any 1000 w1).mono ?_
  rintro e w2 ⟨rfl, o2, b2⟩
  have S2 := Lib.hid (St.begin B1.out o2 b2)
  clear o2 b2
  have cc := make_any S2.out.arena 5 ((HV.out.later S2.out.below).reads)
  rw [new_1 (by omega)] at cc
  have CC := Lib.hid cc; clear cc
  go_wp2_with fail
  refine CC.out.mono ?_
  rintro e w3 ⟨rfl, m3⟩
  clear CC
  obtain ⟨F3, o3, g3⟩ := Made.out m3
  have S3 := Lib.hid (S2.out.grow g3 o3)
  clear m3 o3 g3
  have cc := cellnew_any S3.out.arena 0
  rw [new_2 vals] at cc
  have CC := Lib.hid cc; clear cc
  go_wp2_with fail
  refine CC.out.mono ?_
  rintro e w4 ⟨rfl, m4⟩
  clear CC
  obtain ⟨F4, o4, g4⟩ := Made.out m4
  have S4 := Lib.hid (S3.out.grow g4 o4)
  clear m4 o4 g4
  obtain ⟨A5, e5, ns5⟩ := new_3 vals hv0
  have cc := once_any S4.out.arena 2 v
  rw [e5] at cc
  have CC := Lib.hid cc; clear cc
  go_wp2_with fail
  refine CC.out.mono ?_
  rintro e w5 ⟨rfl, m5⟩
  clear CC
  obtain ⟨F5, o5, g5⟩ := Made.out m5
  have S5 := Lib.hid (S4.out.grow g5 o5)
  clear m5 o5 g5
  have HB0 := Lib.hid (show Hid (St W w5 (some ⟨w1.heap.size, 0, none⟩) (some A5) F5 ∧ NewS vals v 2 A5) from Lib.hid ⟨S5.out, ns5⟩)
  clear e5 ns5
  go_wp2_with fail
  go_loopw [12, 60] (fun n i wr => ∃ k : Nat, k ≤ l.length ∧ i = .int .i64 k ∧ ∃ last : Nat, n = .int .i64 last ∧ ∃ F A, Hid (St W wr (some ⟨w1.heap.size, 0, none⟩) (some A) F ∧ NewS vals v last A)) (fun _ i _ => l.length - (intOf i).toNat)
  case atStart => exact ⟨0, Nat.zero_le _, rfl, 2, rfl, _, _, HB0.out⟩
  case round =>
    obtain ⟨k, hk, rfl, last, rfl, F, A, HS⟩ := hrel
    have hfit := HS.out.1.fits
    have hlen2 := HS.out.2.len
    have hrm := HS.out.2.room
    have hl1000 : last ≤ 1000 := by omega
    have S8 := Lib.hid HS.out.1
    by_cases hlt : k < l.length
    · obtain ⟨b, off, a, cc, rfl, hb, hcl, hcells⟩ := HL.out.cell hlt
      obtain ⟨c0, c1, c2, c3, c4, c5⟩ := hcells wr S8.out.below
      obtain ⟨q, hq⟩ : ∃ q, l[k] = q := ⟨_, rfl⟩
      rw [hq] at c0 c1 c2 c3 c4 c5 hcl
      have hz := S8.out.size
      have hbw : b < wr.heap.size := by omega
      clear hcells hq
      obtain ⟨x0, x1, x2, x3, x4, vs⟩ := q
      simp only [] at c0 c1 c2 c3 c4 c5
      have HC := Lib.hid hcl.vals; clear hcl
      clear hfit hlen2 hrm
      by_cases d0 : x0 = 0
      · have e0 : (x0 == 0) = true := beq_iff_eq.2 d0
        clear d0
        have S9 := Lib.hid (S8.out.alloc (.cells #[.int .i64 x0, .int .i64 x1, .int .i64 x2, .int .i64 x3, .int .i64 x4, .slice a vs.length cc] 51))
        have N9 := Lib.hid (S8.out.new (.cells #[.int .i64 x0, .int .i64 x1, .int .i64 x2, .int .i64 x3, .int .i64 x4, .slice a vs.length cc] 51))
        have pp := HS.out.2.make x1 vs
        have cc := make_any S9.out.arena x1 ((HC.out.later S9.out.below).reads)
        obtain ⟨T, hT⟩ : ∃ T, makeO (some A) x1 vs = T := ⟨_, rfl⟩
        rw [hT] at pp cc
        clear hT
        obtain ⟨n, g, TA⟩ := T
        obtain ⟨A2, hA2, hcase⟩ := pp
        simp only [] at hA2 hcase cc
        subst hA2
        have CC := Lib.hid cc; clear cc
        have n9c0_9 := cell_blk (i := 0) N9.out.at_ rfl
        have n9c1_9 := cell_blk (i := 1) N9.out.at_ rfl
        have n9c2_9 := cell_blk (i := 2) N9.out.at_ rfl
        have n9c3_9 := cell_blk (i := 3) N9.out.at_ rfl
        have n9c4_9 := cell_blk (i := 4) N9.out.at_ rfl
        have n9c5_9 := cell_blk (i := 5) N9.out.at_ rfl
        rcases hcase with ⟨rfl, rfl, ns⟩ | ⟨hg, ns⟩
        · have NS := Lib.hid ns; clear ns
          have qn : (((last : Int) + 1) != ((last : Int) + 1)) = false := by simp
          go_wp2_with fail
          refine CC.out.mono ?_
          rintro e w10 ⟨rfl, m10⟩
          clear CC
          clear n9c0_9 n9c1_9 n9c2_9 n9c3_9 n9c4_9 n9c5_9
          obtain ⟨F10, o10, g10⟩ := Made.out m10
          have S10 := Lib.hid (S9.out.grow g10 o10)
          have N10 := Lib.hid (N9.out.grow g10)
          clear m10 o10 g10
          have ck := kind_any S10.out.arena 1
          rw [NS.out.kind] at ck
          have CK := Lib.hid ck; clear ck
          go_wp2_with fail
          refine (CK.out).mono ?_
          rintro e w' ⟨rfl, rfl⟩
          have qv : (v != v) = false := by simp
          have cc := load_any S10.out.arena 2
          rw [NS.out.load] at cc
          have CC := Lib.hid cc; clear cc
          go_wp2_with fail
          refine CC.out.mono ?_
          rintro e w12 ⟨rfl, m12⟩
          clear CC
          obtain ⟨F12, o12, g12⟩ := Made.out m12
          have S12 := Lib.hid (S10.out.grow g12 o12)
          have N12 := Lib.hid (N10.out.grow g12)
          clear m12 o12 g12
          have NL := Lib.hid NS.out.step
          have SL := S12
          go_wp2_with fail
          go_loop [113] (fun i => ∃ j : Nat, j ≤ vals.length ∧ i = .int .i64 j) (fun i => vals.length - (intOf i).toNat)
          case atStart => exact ⟨0, Nat.zero_le _, rfl⟩
          case round =>
            obtain ⟨j, hj, rfl⟩ := hrel
            by_cases hjl : j < vals.length
            · obtain ⟨b2, off2, rfl, hcell2⟩ := HV.out.cell SL.out.below hjl
              have cv := val_any SL.out.arena 1 (j : Int)
              rw [NL.out.val hjl] at cv
              generalize vals[j] = y at cv hcell2
              have CV := Lib.hid cv; clear cv
              have qy : (y != y) = false := by simp
              go_wp2_with fail
              refine CV.out.mono ?_
              rintro e w' ⟨rfl, rfl⟩
              go_wp2_with fail
              go_round
              case rel => exact ⟨j + 1, by omega, by go_num⟩
              case measure => simp [intOf]; omega
            · have hjk : j = vals.length := by omega
              subst hjk
              go_wp2_with fail
              go_roundw
              case rel => exact ⟨k + 1, by omega, by go_num, last + 1, by go_num, _, _, Lib.hid ⟨SL.out, NL.out⟩⟩
              case measure => simp [intOf]; omega
        · have NS := Lib.hid ns; clear ns
          have q0 : (g == 0) = false := beq_eq_false_iff_ne.2 hg
          clear hg
          go_wp2_with fail
          refine CC.out.mono ?_
          rintro e w10 ⟨rfl, m10⟩
          clear CC
          clear n9c0_9 n9c1_9 n9c2_9 n9c3_9 n9c4_9 n9c5_9
          obtain ⟨F10, o10, g10⟩ := Made.out m10
          have S10 := Lib.hid (S9.out.grow g10 o10)
          have N10 := Lib.hid (N9.out.grow g10)
          clear m10 o10 g10
          have ck := kind_any S10.out.arena 1
          rw [NS.out.kind] at ck
          have CK := Lib.hid ck; clear ck
          go_wp2_with fail
          refine (CK.out).mono ?_
          rintro e w' ⟨rfl, rfl⟩
          have qv : (v != v) = false := by simp
          have cc := load_any S10.out.arena 2
          rw [NS.out.load] at cc
          have CC := Lib.hid cc; clear cc
          go_wp2_with fail
          refine CC.out.mono ?_
          rintro e w12 ⟨rfl, m12⟩
          clear CC
          obtain ⟨F12, o12, g12⟩ := Made.out m12
          have S12 := Lib.hid (S10.out.grow g12 o12)
          have N12 := Lib.hid (N10.out.grow g12)
          clear m12 o12 g12
          have NL := Lib.hid NS.out.step
          have SL := S12
          go_wp2_with fail
          go_loop [113] (fun i => ∃ j : Nat, j ≤ vals.length ∧ i = .int .i64 j) (fun i => vals.length - (intOf i).toNat)
          case atStart => exact ⟨0, Nat.zero_le _, rfl⟩
          case round =>
            obtain ⟨j, hj, rfl⟩ := hrel
            by_cases hjl : j < vals.length
            · obtain ⟨b2, off2, rfl, hcell2⟩ := HV.out.cell SL.out.below hjl
              have cv := val_any SL.out.arena 1 (j : Int)
              rw [NL.out.val hjl] at cv
              generalize vals[j] = y at cv hcell2
              have CV := Lib.hid cv; clear cv
              have qy : (y != y) = false := by simp
              go_wp2_with fail
              refine CV.out.mono ?_
              rintro e w' ⟨rfl, rfl⟩
              go_wp2_with fail
              go_round
              case rel => exact ⟨j + 1, by omega, by go_num⟩
              case measure => simp [intOf]; omega
            · have hjk : j = vals.length := by omega
              subst hjk
              go_wp2_with fail
              go_roundw
              case rel => exact ⟨k + 1, by omega, by go_num, last, rfl, _, _, Lib.hid ⟨SL.out, NL.out⟩⟩
              case measure => simp [intOf]; omega
      by_cases d1 : x0 = 1
      · have e0 : (x0 == 0) = false := beq_eq_false_iff_ne.2 d0
        have e1 : (x0 == 1) = true := beq_iff_eq.2 d1
        clear d0 d1
        have S9 := Lib.hid (S8.out.alloc (.cells #[.int .i64 x0, .int .i64 x1, .int .i64 x2, .int .i64 x3, .int .i64 x4, .slice a vs.length cc] 51))
        have N9 := Lib.hid (S8.out.new (.cells #[.int .i64 x0, .int .i64 x1, .int .i64 x2, .int .i64 x3, .int .i64 x4, .slice a vs.length cc] 51))
        have pp := HS.out.2.more x4
        have cc := cellnew_any S9.out.arena x4
        obtain ⟨T, hT⟩ : ∃ T, cellO (some A) x4 = T := ⟨_, rfl⟩
        rw [hT] at pp cc
        clear hT
        obtain ⟨n, g, TA⟩ := T
        obtain ⟨A2, hA2, hcase⟩ := pp
        simp only [] at hA2 hcase cc
        subst hA2
        have CC := Lib.hid cc; clear cc
        have n9c0_9 := cell_blk (i := 0) N9.out.at_ rfl
        have n9c1_9 := cell_blk (i := 1) N9.out.at_ rfl
        have n9c2_9 := cell_blk (i := 2) N9.out.at_ rfl
        have n9c3_9 := cell_blk (i := 3) N9.out.at_ rfl
        have n9c4_9 := cell_blk (i := 4) N9.out.at_ rfl
        have n9c5_9 := cell_blk (i := 5) N9.out.at_ rfl
        rcases hcase with ⟨rfl, rfl, ns⟩ | ⟨hg, ns⟩
        · have NS := Lib.hid ns; clear ns
          have qn : (((last : Int) + 1) != ((last : Int) + 1)) = false := by simp
          go_wp2_with fail
          refine CC.out.mono ?_
          rintro e w10 ⟨rfl, m10⟩
          clear CC
          clear n9c0_9 n9c1_9 n9c2_9 n9c3_9 n9c4_9 n9c5_9
          obtain ⟨F10, o10, g10⟩ := Made.out m10
          have S10 := Lib.hid (S9.out.grow g10 o10)
          have N10 := Lib.hid (N9.out.grow g10)
          clear m10 o10 g10
          have ck := kind_any S10.out.arena 1
          rw [NS.out.kind] at ck
          have CK := Lib.hid ck; clear ck
          go_wp2_with fail
          refine (CK.out).mono ?_
          rintro e w' ⟨rfl, rfl⟩
          have qv : (v != v) = false := by simp
          have cc := load_any S10.out.arena 2
          rw [NS.out.load] at cc
          have CC := Lib.hid cc; clear cc
          go_wp2_with fail
          refine CC.out.mono ?_
          rintro e w12 ⟨rfl, m12⟩
          clear CC
          obtain ⟨F12, o12, g12⟩ := Made.out m12
          have S12 := Lib.hid (S10.out.grow g12 o12)
          have N12 := Lib.hid (N10.out.grow g12)
          clear m12 o12 g12
          have NL := Lib.hid NS.out.step
          have SL := S12
          go_wp2_with fail
          go_loop [113] (fun i => ∃ j : Nat, j ≤ vals.length ∧ i = .int .i64 j) (fun i => vals.length - (intOf i).toNat)
          case atStart => exact ⟨0, Nat.zero_le _, rfl⟩
          case round =>
            obtain ⟨j, hj, rfl⟩ := hrel
            by_cases hjl : j < vals.length
            · obtain ⟨b2, off2, rfl, hcell2⟩ := HV.out.cell SL.out.below hjl
              have cv := val_any SL.out.arena 1 (j : Int)
              rw [NL.out.val hjl] at cv
              generalize vals[j] = y at cv hcell2
              have CV := Lib.hid cv; clear cv
              have qy : (y != y) = false := by simp
              go_wp2_with fail
              refine CV.out.mono ?_
              rintro e w' ⟨rfl, rfl⟩
              go_wp2_with fail
              go_round
              case rel => exact ⟨j + 1, by omega, by go_num⟩
              case measure => simp [intOf]; omega
            · have hjk : j = vals.length := by omega
              subst hjk
              go_wp2_with fail
              go_roundw
              case rel => exact ⟨k + 1, by omega, by go_num, last + 1, by go_num, _, _, Lib.hid ⟨SL.out, NL.out⟩⟩
              case measure => simp [intOf]; omega
        · have NS := Lib.hid ns; clear ns
          have q0 : (g == 0) = false := beq_eq_false_iff_ne.2 hg
          clear hg
          go_wp2_with fail
          refine CC.out.mono ?_
          rintro e w10 ⟨rfl, m10⟩
          clear CC
          clear n9c0_9 n9c1_9 n9c2_9 n9c3_9 n9c4_9 n9c5_9
          obtain ⟨F10, o10, g10⟩ := Made.out m10
          have S10 := Lib.hid (S9.out.grow g10 o10)
          have N10 := Lib.hid (N9.out.grow g10)
          clear m10 o10 g10
          have ck := kind_any S10.out.arena 1
          rw [NS.out.kind] at ck
          have CK := Lib.hid ck; clear ck
          go_wp2_with fail
          refine (CK.out).mono ?_
          rintro e w' ⟨rfl, rfl⟩
          have qv : (v != v) = false := by simp
          have cc := load_any S10.out.arena 2
          rw [NS.out.load] at cc
          have CC := Lib.hid cc; clear cc
          go_wp2_with fail
          refine CC.out.mono ?_
          rintro e w12 ⟨rfl, m12⟩
          clear CC
          obtain ⟨F12, o12, g12⟩ := Made.out m12
          have S12 := Lib.hid (S10.out.grow g12 o12)
          have N12 := Lib.hid (N10.out.grow g12)
          clear m12 o12 g12
          have NL := Lib.hid NS.out.step
          have SL := S12
          go_wp2_with fail
          go_loop [113] (fun i => ∃ j : Nat, j ≤ vals.length ∧ i = .int .i64 j) (fun i => vals.length - (intOf i).toNat)
          case atStart => exact ⟨0, Nat.zero_le _, rfl⟩
          case round =>
            obtain ⟨j, hj, rfl⟩ := hrel
            by_cases hjl : j < vals.length
            · obtain ⟨b2, off2, rfl, hcell2⟩ := HV.out.cell SL.out.below hjl
              have cv := val_any SL.out.arena 1 (j : Int)
              rw [NL.out.val hjl] at cv
              generalize vals[j] = y at cv hcell2
              have CV := Lib.hid cv; clear cv
              have qy : (y != y) = false := by simp
              go_wp2_with fail
              refine CV.out.mono ?_
              rintro e w' ⟨rfl, rfl⟩
              go_wp2_with fail
              go_round
              case rel => exact ⟨j + 1, by omega, by go_num⟩
              case measure => simp [intOf]; omega
            · have hjk : j = vals.length := by omega
              subst hjk
              go_wp2_with fail
              go_roundw
              case rel => exact ⟨k + 1, by omega, by go_num, last, rfl, _, _, Lib.hid ⟨SL.out, NL.out⟩⟩
              case measure => simp [intOf]; omega
      by_cases d4 : x0 = 4
      · have e0 : (x0 == 0) = false := beq_eq_false_iff_ne.2 d0
        have e1 : (x0 == 1) = false := beq_eq_false_iff_ne.2 d1
        have e4 : (x0 == 4) = true := beq_iff_eq.2 d4
        clear d0 d1 d4
        have S9 := Lib.hid (S8.out.alloc (.cells #[.int .i64 x0, .int .i64 x1, .int .i64 x2, .int .i64 x3, .int .i64 x4, .slice a vs.length cc] 51))
        have N9 := Lib.hid (S8.out.new (.cells #[.int .i64 x0, .int .i64 x1, .int .i64 x2, .int .i64 x3, .int .i64 x4, .slice a vs.length cc] 51))
        have n9c0_9 := cell_blk (i := 0) N9.out.at_ rfl
        have n9c1_9 := cell_blk (i := 1) N9.out.at_ rfl
        have n9c2_9 := cell_blk (i := 2) N9.out.at_ rfl
        have n9c3_9 := cell_blk (i := 3) N9.out.at_ rfl
        have n9c4_9 := cell_blk (i := 4) N9.out.at_ rfl
        have n9c5_9 := cell_blk (i := 5) N9.out.at_ rfl
        have cc := once_any S9.out.arena 2 x4
        rw [HS.out.2.once hv0] at cc
        have CC := Lib.hid cc; clear cc
        go_wp2_with fail
        refine CC.out.mono ?_
        rintro e w10 ⟨rfl, m10⟩
        clear CC
        clear n9c0_9 n9c1_9 n9c2_9 n9c3_9 n9c4_9 n9c5_9
        obtain ⟨F10, o10, g10⟩ := Made.out m10
        have S10 := Lib.hid (S9.out.grow g10 o10)
        have N10 := Lib.hid (N9.out.grow g10)
        clear m10 o10 g10
        have NS := Lib.hid HS.out.2.step
        have ck := kind_any S10.out.arena 1
        rw [NS.out.kind] at ck
        have CK := Lib.hid ck; clear ck
        go_wp2_with fail
        refine (CK.out).mono ?_
        rintro e w' ⟨rfl, rfl⟩
        have qv : (v != v) = false := by simp
        have cc := load_any S10.out.arena 2
        rw [NS.out.load] at cc
        have CC := Lib.hid cc; clear cc
        go_wp2_with fail
        refine CC.out.mono ?_
        rintro e w12 ⟨rfl, m12⟩
        clear CC
        obtain ⟨F12, o12, g12⟩ := Made.out m12
        have S12 := Lib.hid (S10.out.grow g12 o12)
        have N12 := Lib.hid (N10.out.grow g12)
        clear m12 o12 g12
        have NL := Lib.hid NS.out.step
        have SL := S12
        go_wp2_with fail
        go_loop [113] (fun i => ∃ j : Nat, j ≤ vals.length ∧ i = .int .i64 j) (fun i => vals.length - (intOf i).toNat)
        case atStart => exact ⟨0, Nat.zero_le _, rfl⟩
        case round =>
          obtain ⟨j, hj, rfl⟩ := hrel
          by_cases hjl : j < vals.length
          · obtain ⟨b2, off2, rfl, hcell2⟩ := HV.out.cell SL.out.below hjl
            have cv := val_any SL.out.arena 1 (j : Int)
            rw [NL.out.val hjl] at cv
            generalize vals[j] = y at cv hcell2
            have CV := Lib.hid cv; clear cv
            have qy : (y != y) = false := by simp
            go_wp2_with fail
            refine CV.out.mono ?_
            rintro e w' ⟨rfl, rfl⟩
            go_wp2_with fail
            go_round
            case rel => exact ⟨j + 1, by omega, by go_num⟩
            case measure => simp [intOf]; omega
          · have hjk : j = vals.length := by omega
            subst hjk
            go_wp2_with fail
            go_roundw
            case rel => exact ⟨k + 1, by omega, by go_num, last, rfl, _, _, Lib.hid ⟨SL.out, NL.out⟩⟩
            case measure => simp [intOf]; omega
      · have e0 : (x0 == 0) = false := beq_eq_false_iff_ne.2 d0
        have e1 : (x0 == 1) = false := beq_eq_false_iff_ne.2 d1
        have e4 : (x0 == 4) = false := beq_eq_false_iff_ne.2 d4
        clear d0 d1 d4
        have S9 := Lib.hid (S8.out.alloc (.cells #[.int .i64 x0, .int .i64 x1, .int .i64 x2, .int .i64 x3, .int .i64 x4, .slice a vs.length cc] 51))
        have N9 := Lib.hid (S8.out.new (.cells #[.int .i64 x0, .int .i64 x1, .int .i64 x2, .int .i64 x3, .int .i64 x4, .slice a vs.length cc] 51))
        have n9c0_9 := cell_blk (i := 0) N9.out.at_ rfl
        have n9c1_9 := cell_blk (i := 1) N9.out.at_ rfl
        have n9c2_9 := cell_blk (i := 2) N9.out.at_ rfl
        have n9c3_9 := cell_blk (i := 3) N9.out.at_ rfl
        have n9c4_9 := cell_blk (i := 4) N9.out.at_ rfl
        have n9c5_9 := cell_blk (i := 5) N9.out.at_ rfl
        have NS := Lib.hid HS.out.2
        have ck := kind_any S9.out.arena 1
        rw [NS.out.kind] at ck
        have CK := Lib.hid ck; clear ck
        go_wp2_with fail
        refine (CK.out).mono ?_
        rintro e w' ⟨rfl, rfl⟩
        have qv : (v != v) = false := by simp
        have cc := load_any S9.out.arena 2
        rw [NS.out.load] at cc
        have CC := Lib.hid cc; clear cc
        go_wp2_with fail
        refine CC.out.mono ?_
        rintro e w11 ⟨rfl, m11⟩
        clear CC
        clear n9c0_9 n9c1_9 n9c2_9 n9c3_9 n9c4_9 n9c5_9
        obtain ⟨F11, o11, g11⟩ := Made.out m11
        have S11 := Lib.hid (S9.out.grow g11 o11)
        have N11 := Lib.hid (N9.out.grow g11)
        clear m11 o11 g11
        have NL := Lib.hid NS.out.step
        have SL := S11
        go_wp2_with fail
        go_loop [113] (fun i => ∃ j : Nat, j ≤ vals.length ∧ i = .int .i64 j) (fun i => vals.length - (intOf i).toNat)
        case atStart => exact ⟨0, Nat.zero_le _, rfl⟩
        case round =>
          obtain ⟨j, hj, rfl⟩ := hrel
          by_cases hjl : j < vals.length
          · obtain ⟨b2, off2, rfl, hcell2⟩ := HV.out.cell SL.out.below hjl
            have cv := val_any SL.out.arena 1 (j : Int)
            rw [NL.out.val hjl] at cv
            generalize vals[j] = y at cv hcell2
            have CV := Lib.hid cv; clear cv
            have qy : (y != y) = false := by simp
            go_wp2_with fail
            refine CV.out.mono ?_
            rintro e w' ⟨rfl, rfl⟩
            go_wp2_with fail
            go_round
            case rel => exact ⟨j + 1, by omega, by go_num⟩
            case measure => simp [intOf]; omega
          · have hjk : j = vals.length := by omega
            subst hjk
            go_wp2_with fail
            go_roundw
            case rel => exact ⟨k + 1, by omega, by go_num, last, rfl, _, _, Lib.hid ⟨SL.out, NL.out⟩⟩
            case measure => simp [intOf]; omega
    · have hkl : k = l.length := by omega
      subst hkl
      have cu := used_any S8.out.arena
      rw [show usedO (some A) = (A.slots.length : Int) from rfl, hlen2] at cu
      have CU := Lib.hid cu; clear cu
      clear hfit hlen2 hrm
      have ql := beq_self_eq_true (last : Int)
      go_wp2_with fail
      refine CU.out.mono ?_
      rintro e w' ⟨rfl, rfl⟩
      go_wp2_with (go_at_call 16; refine (awake2_any W _ S8.out.below).mono ?_; rintro e wz ⟨rfl, bz⟩)
      go_ret
      exact ⟨rfl, bz⟩

end Go.Proofs.Ytbndhaocohomjaa
