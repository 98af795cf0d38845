/- The walks of the reference's functions on keys and lists of pairs. -/
import Derived.Test.YtkcfkanfdbejiaaAbs
import Derived.Test.YtkcfkanfdbejiaaOpen
import Derived.Test.YtkcfkanfdbejiaaGrow
namespace Go.Proofs.Ytkcfkanfdbejiaa
set_option maxRecDepth 100000
open Go.RowKit Go.Proofs.Ytkcfkanfdbejiaa.Mix

set_option maxHeartbeats 400000 in
theorem prio_any (a : Int) (w : World) : Calls Try.prog 78 #[.int .i64 a] w fun e w' => e = .returned (.int .u64 (prioN a)) ∧ w = w' := by
  go_enter Try.func78, Try.ntmps78
  go_wp2
  go_ret
  exact ⟨congrArg (fun n => Ending.returned (Value.int .u64 n)) (prio_eq a), rfl⟩
set_option maxHeartbeats 400000 in
theorem prio1_any (a : Int) (w : World) : Calls Try.prog 44 #[.int .i64 a] w fun e w' => e = .returned (.int .u64 (prioN a)) ∧ w = w' := by
  go_enter Try.func44, Try.ntmps44
  go_wp2
  go_ret
  exact ⟨congrArg (fun n => Ending.returned (Value.int .u64 n)) (prio_eq a), rfl⟩

theorem above_of_pq {a b : Int} {p q : Nat} (hp : prioN a = p) (hq : prioN b = q) : above a b = if p = q then decide (a < b) else decide (q < p) := by subst hp; subst hq; exact above_mk a b

set_option maxHeartbeats 400000 in
theorem above_any (a b : Int) (w : World) : Calls Try.prog 67 #[.int .i64 a, .int .i64 b] w fun e w' => e = .returned (.bool (above a b)) ∧ w = w' := by
  have h1 := prio_any a w
  have h2 := prio_any b w
  generalize hp : prioN a = p at h1
  generalize hq : prioN b = q at h2
  rw [above_of_pq hp hq]
  clear hp hq
  have H1 := Lib.hid h1; clear h1
  have H2 := Lib.hid h2; clear h2
  by_cases e : p = q
  · subst e
    rw [if_pos rfl]
    go_enter Try.func67, Try.ntmps67
    go_wp2_with fail
    refine H1.out.mono ?_
    rintro e w' ⟨rfl, rfl⟩
    go_wp2_with fail
    refine H2.out.mono ?_
    rintro e w' ⟨rfl, rfl⟩
    go_wp2_with fail
    go_ret
    exact ⟨rfl, rfl⟩
  · rw [if_neg e]
    have e1 : ((p : Int) == (q : Int)) = false := beq_eq_false_iff_ne.2 (by omega)
    have e2 : ((p : Int) != (q : Int)) = true := by rw [bne, e1]; rfl
    have e3 : decide ((q : Int) < (p : Int)) = decide (q < p) := decide_eq_decide.2 (by omega)
    have E3 := Lib.hid e3; clear e3 e
    go_enter Try.func67, Try.ntmps67
    go_wp2_with fail
    refine H1.out.mono ?_
    rintro e w' ⟨rfl, rfl⟩
    go_wp2_with fail
    refine H2.out.mono ?_
    rintro e w' ⟨rfl, rfl⟩
    go_wp2_with fail
    go_ret
    refine ⟨?_, rfl⟩
    first | rfl | (rw [← E3.out]; rfl)

set_option maxHeartbeats 400000 in
theorem above1_any (a b : Int) (w : World) : Calls Try.prog 20 #[.int .i64 a, .int .i64 b] w fun e w' => e = .returned (.bool (above a b)) ∧ w = w' := by
  have h1 := prio1_any a w
  have h2 := prio1_any b w
  generalize hp : prioN a = p at h1
  generalize hq : prioN b = q at h2
  rw [above_of_pq hp hq]
  clear hp hq
  have H1 := Lib.hid h1; clear h1
  have H2 := Lib.hid h2; clear h2
  by_cases e : p = q
  · subst e
    rw [if_pos rfl]
    go_enter Try.func20, Try.ntmps20
    go_wp2_with fail
    refine H1.out.mono ?_
    rintro e w' ⟨rfl, rfl⟩
    go_wp2_with fail
    refine H2.out.mono ?_
    rintro e w' ⟨rfl, rfl⟩
    go_wp2_with fail
    go_ret
    exact ⟨rfl, rfl⟩
  · rw [if_neg e]
    have e1 : ((p : Int) == (q : Int)) = false := beq_eq_false_iff_ne.2 (by omega)
    by_cases g : q < p
    · rw [decide_eq_true g]
      clear e
      go_enter Try.func20, Try.ntmps20
      go_wp2_with fail
      refine H1.out.mono ?_
      rintro e w' ⟨rfl, rfl⟩
      go_wp2_with fail
      refine H2.out.mono ?_
      rintro e w' ⟨rfl, rfl⟩
      go_wp2_with fail
      go_ret
      exact ⟨rfl, rfl⟩
    · have g' : ¬ ((q : Int) < (p : Int)) := by omega
      clear e g
      go_enter Try.func20, Try.ntmps20
      go_wp2_with fail
      refine H1.out.mono ?_
      rintro e w' ⟨rfl, rfl⟩
      go_wp2_with fail
      refine H2.out.mono ?_
      rintro e w' ⟨rfl, rfl⟩
      go_wp2_with fail
      go_ret
      exact ⟨rfl, rfl⟩

/-- A pair of a slice, read in a later world. -/
theorem PIn.cell {W w : World} {ad : Option Addr} {c : Nat} {l : List Pr} (h : PIn W ad c l) {B : Nat} (hB : Below B W w) (hlt : ∀ x, ad = some x → l ≠ [] → x.block < B) {k : Nat} (hk : k < l.length) :
    ∃ b off, ad = some ⟨b, off, none⟩ ∧ w.cell? ⟨b, off + k * 2, none⟩ = some (.int .i64 (l[k]).1) ∧ w.cell? ⟨b, off + k * 2 + 1, none⟩ = some (.int .i64 (l[k]).2) := by
  rcases h.at_ with rfl | ⟨b, off, rfl, hc⟩
  · simp at hk
  · have hb : b < B := hlt _ rfl (by intro e; subst e; simp at hk)
    obtain ⟨h1, h2⟩ := hc k hk
    exact ⟨b, off, rfl, (hB.cell (p := ⟨b, off + k * 2, none⟩) hb).trans h1, (hB.cell (p := ⟨b, off + k * 2 + 1, none⟩) hb).trans h2⟩
theorem PIn.lt {W : World} {ad : Option Addr} {c : Nat} {l : List Pr} (h : PIn W ad c l) : ∀ x, ad = some x → l ≠ [] → x.block < W.heap.size := by
  intro x hx hl
  rcases h.at_ with rfl | ⟨b, off, rfl, hc⟩
  · exact absurd rfl hl
  · obtain rfl := Option.some.inj hx
    have : 0 < l.length := List.length_pos_iff.2 hl
    exact World.block_lt_of_cell? W _ (hc 0 this).1
theorem PIn.later {W w : World} {ad : Option Addr} {c : Nat} {l : List Pr} (h : PIn W ad c l) (hB : Below W.heap.size W w) : PIn w ad c l := by
  refine ⟨?_, h.room, h.most⟩
  rcases h.at_ with rfl | ⟨b, off, rfl, hc⟩
  · exact .inl rfl
  · refine .inr ⟨b, off, rfl, fun j hj => ?_⟩
    obtain ⟨h1, h2⟩ := hc j hj
    have hb := World.block_lt_of_cell? W _ h1
    exact ⟨(hB.cell (p := ⟨b, off + j * 2, none⟩) hb).trans h1, (hB.cell (p := ⟨b, off + j * 2 + 1, none⟩) hb).trans h2⟩

theorem take_top (l : List Pr) (k : Nat) (hk : k < l.length) : keyAt l k = (l[k]).1 := by
  unfold keyAt
  rw [List.getD_eq_getElem?_getD, List.getElem?_eq_getElem hk, Option.getD_some]

set_option maxHeartbeats 4000000 in
theorem top_any (W : World) {ad : Option Addr} {c : Nat} {l : List Pr} (hl : PIn W ad c l) :
    Calls Try.prog 21 #[.slice ad l.length c] W fun e w' => e = .returned (.int .i64 (top l)) ∧ Below W.heap.size W w' := by
  have hlen : l.length ≤ 9223372036854775807 := by have := hl.room; have := hl.most; unfold maxLen at this; omega
  have HL := Lib.hid hl; clear hl
  go_enter Try.func21, Try.ntmps21
  go_wp2_with fail
  go_loopw [3, 8] (fun b i wr => ∃ k : Nat, k ≤ l.length ∧ i = .int .i64 k ∧ b = .int .i64 (topB l k) ∧ Below W.heap.size W wr) (fun _ i _ => l.length - (intOf i).toNat)
  case atStart => exact ⟨0, Nat.zero_le _, rfl, rfl, Below.refl _ _⟩
  case round =>
    obtain ⟨k, hk, rfl, rfl, hB⟩ := hrel
    have hsz := hB.size
    by_cases hlt : k < l.length
    · obtain ⟨b, off, rfl, d0, d1⟩ := HL.out.cell hB HL.out.lt hlt
      have hbd := topB_bd l k
      have hstep : topB l (k + 1) = if topB l k < 0 then (k : Int) else if above (keyAt l k) (keyAt l (topB l k).toNat) = true then (k : Int) else topB l k := rfl
      have hkey := take_top l k hlt
      by_cases h0 : topB l k < 0
      · rw [if_pos h0] at hstep
        have hB2 : Below W.heap.size W (wr.alloc (.cells #[.int .i64 (l[k]).1, .int .i64 (l[k]).2] 24)) := hB.alloc hsz _
        have HB2 := Lib.hid hB2; clear hB2
        have HS := Lib.hid hstep; clear hstep hkey
        go_wp2_with fail
        go_quiet (fail)
        go_wp2_with fail
        go_roundw
        case rel => exact ⟨k + 1, by omega, by go_num, by rw [HS.out], HB2.out.trans (by exact ⟨rfl, rfl, rfl, Nat.le_refl _, fun _ _ => rfl⟩)⟩
        case measure => simp [intOf]; omega
      · rw [if_neg h0] at hstep
        obtain ⟨m, hm⟩ : ∃ m : Nat, topB l k = m := ⟨(topB l k).toNat, by omega⟩
        have hmk : m < l.length := by omega
        obtain ⟨b', off', hbb, e0, e1⟩ := HL.out.cell hB HL.out.lt hmk
        obtain ⟨rfl, rfl⟩ : b = b' ∧ off = off' := by simpa using hbb
        have hkey2 := take_top l m hmk
        rw [hm, Int.toNat_natCast, hkey, hkey2] at hstep
        have hbl : b < wr.heap.size := World.block_lt_of_cell? wr _ d0
        have HS := Lib.hid hstep; clear hstep hkey hkey2
        have HM := Lib.hid hm
        have hB2 : Below W.heap.size W (wr.alloc (.cells #[.int .i64 (l[k]).1, .int .i64 (l[k]).2] 24)) := hB.alloc hsz _
        have HB2 := Lib.hid hB2; clear hB2
        rw [hm]
        clear hm
        have hge : ¬ ((m : Int) < 0) := by omega
        generalize hA : above (l[k]).1 (l[m]).1 = A at HS
        have hcall : ∀ ww, Calls Try.prog 20 #[.int .i64 (l[k]).1, .int .i64 (l[m]).1] ww fun e w' => e = .returned (.bool A) ∧ w' = ww := fun ww => by
          rw [← hA]
          exact (above1_any _ _ ww).mono fun _ _ h => ⟨h.1, h.2.symm⟩
        have HC := Lib.hid hcall; clear hcall hA
        cases A with
        | true =>
          go_wp2_with fail
          go_quiet ((go_at_call 20; exact Calls.quiet_of_same (HC.out _)))
          go_wp2_with fail
          go_roundw
          case rel => exact ⟨k + 1, by omega, by go_num, by rw [HS.out]; rfl, HB2.out.trans (by exact ⟨rfl, rfl, rfl, Nat.le_refl _, fun _ _ => rfl⟩)⟩
          case measure => simp [intOf]; omega
        | false =>
          go_wp2_with fail
          go_quiet ((go_at_call 20; exact Calls.quiet_of_same (HC.out _)))
          go_wp2_with fail
          go_roundw
          case rel => exact ⟨k + 1, by omega, by go_num, by rw [HS.out]; rfl, HB2.out.trans (by exact ⟨rfl, rfl, rfl, Nat.le_refl _, fun _ _ => rfl⟩)⟩
          case measure => simp [intOf]; omega
    · have hkl : k = l.length := by omega
      subst hkl
      have HB := Lib.hid hB
      go_wp2_with fail
      go_ret
      exact ⟨rfl, HB.out⟩

end Go.Proofs.Ytkcfkanfdbejiaa
