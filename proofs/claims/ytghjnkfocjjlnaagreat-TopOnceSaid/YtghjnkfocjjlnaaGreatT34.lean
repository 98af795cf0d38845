/- Rows of pairs: whether they may be. -/
import Derived.Test.YtghjnkfocjjlnaaGreatT33
set_option linter.unusedSimpArgs false
set_option linter.unusedVariables false
namespace Go.Proofs.YtghjnkfocjjlnaaGreat
set_option maxRecDepth 100000
open Go.RowKit Go.Proofs.YtghjnkfocjjlnaaGreatW.PrintWords Go.Proofs.YtghjnkfocjjlnaaGreatW.PrintLast
set_option linter.unusedVariables false
set_option linter.unusedSimpArgs false
theorem PIn.at2 {w : World} {ad : Option Addr} {c : Nat} {l : List Pr} (h : PIn w ad c l) {k : Nat} (hk : k < l.length) : ∃ b off, ad = some ⟨b, off, none⟩ ∧ ∀ j (hj : j < l.length), w.cell? ⟨b, off + j * 2, none⟩ = some (.int .i64 (l[j]).1) ∧ w.cell? ⟨b, off + j * 2 + 1, none⟩ = some (.int .i64 (l[j]).2) := by
  rcases h.at_ with h1 | h1
  · rw [h1] at hk; simp at hk
  · exact h1
set_option maxRecDepth 100000 in
set_option maxHeartbeats 4000000 in
theorem xleafmay_any {w : World} {ad : Option Addr} {c : Nat} {l : List Pr} (h : PIn w ad c l) (hs : Sorted l) (hlen : l.length ≤ 1000000) :
    Calls Tryz.prog 48 #[.slice ad l.length c] w fun e w' => e = .returned (.bool true) ∧ Below w.heap.size w w' := by
  have HI := Lib.hid h
  have HS := Lib.hid hs
  obtain ⟨n, hn⟩ : ∃ n, n = l.length := ⟨_, rfl⟩
  have HN := Lib.hid hn
  rw [← hn] at hlen ⊢
  clear h hs hn
  go_enter Tryz.func48, Tryz.ntmps48
  go_wp2_with fail
  go_loopw [3] (fun i wr => ∃ j : Nat, i = .int .i64 ((j : Int) + 1) ∧ j ≤ n ∧ Hid (Below w.heap.size w wr)) (fun i _ => n + 1 - (intOf i).toNat)
  case atStart => exact ⟨0, rfl, Nat.zero_le _, Lib.hid (Below.refl _ _)⟩
  case round =>
    obtain ⟨j, rfl, hj, HB⟩ := hrel
    by_cases hlt : j + 1 < n
    · obtain ⟨b, off, rfl, hc⟩ := (HI.out.later HB.out).at2 (k := j + 1) (by rw [← HN.out]; exact hlt)
      have h0 : j < l.length := by have := HN.out; omega
      have h1 : j + 1 < l.length := by have := HN.out; omega
      have c1 := (hc j h0).1
      have c2 := (hc (j + 1) h1).1
      have hlt2 : l[j].1 < l[j + 1].1 := List.pairwise_iff_getElem.1 HS.out j (j + 1) h0 h1 (by omega)
      generalize l[j].1 = x1 at c1 hlt2
      generalize l[j + 1].1 = x2 at c2 hlt2
      have q0 : ¬ ((j : Int) < 0) := by omega
      have q1 : ¬ ((n : Int) ≤ (j : Int)) := by omega
      have q2 : ¬ ((j : Int) + 1 < 0) := by omega
      have q3 : ¬ ((n : Int) ≤ (j : Int) + 1) := by omega
      have q4 : (j : Int) + 1 < (n : Int) := by omega
      have q5 : ¬ (x2 ≤ x1) := by omega
      have q6 : decide (x2 ≤ x1) = false := by simp; omega
      clear hc h0 h1 hlt2
      go_wp2_with fail
      go_quiet (fail)
      go_wp2_with fail
      go_roundw
      case rel => exact ⟨j + 1, by go_num, by omega, Lib.hid (HB.out.trans (Below.mono (show Below wr.heap.size wr (wr.drewN nq) from ⟨rfl, rfl, rfl, Nat.le_refl _, fun _ _ => rfl⟩) HB.out.size))⟩
      case measure => simp [intOf]; omega
    · have q4 : ¬ ((j : Int) + 1 < (n : Int)) := by omega
      go_wp2_with fail
      go_ret
      exact ⟨rfl, HB.out⟩
/-- Which keys may stand somewhere. -/
structure KeysR where
  least : Int
  most : Int
  isLeast : Bool
  isMost : Bool
def KeysR.has (k : KeysR) (key : Int) : Bool := (!k.isLeast || decide (k.least ≤ key)) && (!k.isMost || decide (key < k.most))
def keysC (k : KeysR) : Array Value := #[.int .i64 k.least, .int .i64 k.most, .bool k.isLeast, .bool k.isMost]
set_option maxRecDepth 100000 in
set_option maxHeartbeats 4000000 in
theorem xhas_any (w : World) (k : KeysR) (key : Int) :
    Calls Tryz.prog 65 #[.agg (keysC k), .int .i64 key] w fun e w' => e = .returned (.bool (k.has key)) ∧ Below w.heap.size w w' := by
  obtain ⟨kl, km, bl, bm⟩ := k
  unfold keysC KeysR.has
  dsimp only
  have E0 := Lib.hid (heap_alloc_new w (.cells #[.int .i64 kl, .int .i64 km, .bool bl, .bool bm] 107))
  have B0 := Lib.hid ((Below.refl w.heap.size w).alloc (Nat.le_refl _) (.cells #[.int .i64 kl, .int .i64 km, .bool bl, .bool bm] 107))
  have c0 := cell_blk (i := 0) E0.out rfl
  have c1 := cell_blk (i := 1) E0.out rfl
  have c2 := cell_blk (i := 2) E0.out rfl
  have c3 := cell_blk (i := 3) E0.out rfl
  cases bl <;> cases bm <;> by_cases h1 : kl ≤ key <;> by_cases h2 : key < km
  all_goals
    have d1 := h1
    have d2 := h2
    go_enter Tryz.func65, Tryz.ntmps65
    go_wp2_with fail
    go_ret
    refine ⟨?_, B0.out⟩
    simp [h1, h2]
set_option maxRecDepth 100000 in
set_option maxHeartbeats 4000000 in
theorem xmay1_any {w : World} {bk : Nat} {k : KeysR} (hk : w.heap[bk]? = some (.cells (keysC k) 107 (0, 0))) (key val : Int) :
    Calls Tryz.prog 64 #[.agg #[.int .i64 key, .int .i64 val], pt_ bk] w fun e w' => e = .returned (.bool (!k.has key)) ∧ Below w.heap.size w w' := by
  have E0 := Lib.hid (heap_alloc_new w (.cells #[.int .i64 key, .int .i64 val] 43))
  have B0 := Lib.hid ((Below.refl w.heap.size w).alloc (Nat.le_refl _) (.cells #[.int .i64 key, .int .i64 val] 43))
  have XH := Lib.hid (xhas_any (w.alloc (.cells #[.int .i64 key, .int .i64 val] 43)) k key)
  have K0 := Lib.hid ((B0.out.block bk (lt_of_some hk)).trans hk)
  clear hk
  obtain ⟨kl, km, bl, bm⟩ := k
  have e0 := cell_blk (i := 0) E0.out rfl
  have c0 := cell_blk (i := 0) K0.out rfl
  have c1 := cell_blk (i := 1) K0.out rfl
  have c2 := cell_blk (i := 2) K0.out rfl
  have c3 := cell_blk (i := 3) K0.out rfl
  unfold keysC at XH
  dsimp only at XH
  go_enter Tryz.func64, Tryz.ntmps64
  go_wp2_with fail
  refine XH.out.mono ?_
  rintro e w2 ⟨rfl, b2⟩
  have B2 := Lib.hid (B0.out.trans (b2.mono B0.out.size))
  clear b2 e0 c0 c1 c2 c3
  go_wp2_with fail
  go_ret
  exact ⟨rfl, B2.out⟩
set_option maxRecDepth 100000 in
set_option maxHeartbeats 4000000 in
theorem xindexP_no {w : World} {ad : Option Addr} {c : Nat} {l : List Pr} (h : PIn w ad c l) (hlen : l.length ≤ 1000000) {bk : Nat} {k : KeysR} (hbk : w.heap[bk]? = some (.cells (keysC k) 107 (0, 0))) (hk : ∀ p ∈ l, k.has p.1 = true) :
    Calls Tryz.prog 109 #[.slice ad l.length c, .func (.func 64) #[] #[pt_ bk]] w fun e w' => e = .returned (.int .i64 (-1)) ∧ Below w.heap.size w w' := by
  have HI := Lib.hid h
  have HK := Lib.hid hk
  have HB0 := Lib.hid hbk
  obtain ⟨n, hn⟩ : ∃ n, n = l.length := ⟨_, rfl⟩
  have HN := Lib.hid hn
  rw [← hn] at hlen ⊢
  clear h hk hbk hn
  go_enter Tryz.func109, Tryz.ntmps109
  go_wp2_with fail
  go_loopw [8] (fun i wr => ∃ j : Nat, i = .int .i64 (j : Int) ∧ j ≤ n ∧ Hid (Below w.heap.size w wr)) (fun i _ => n - (intOf i).toNat)
  case atStart => exact ⟨0, rfl, Nat.zero_le _, Lib.hid (Below.refl _ _)⟩
  case round =>
    obtain ⟨j, rfl, hj, HB⟩ := hrel
    by_cases hlt : j < n
    · have h0 : j < l.length := by have := HN.out; omega
      obtain ⟨b, off, rfl, hc⟩ := (HI.out.later HB.out).at2 h0
      obtain ⟨c1, c2⟩ := hc j h0
      have hhas := HK.out _ (List.getElem_mem h0)
      generalize l[j].2 = v1 at c2
      generalize l[j].1 = x1 at c1 hhas
      have m1 := xmay1_any ((HB.out.block bk (lt_of_some HB0.out)).trans HB0.out) x1 v1
      rw [hhas] at m1
      have M1 := Lib.hid m1
      have q0 : ¬ ((j : Int) < 0) := by omega
      have q1 : ¬ ((n : Int) ≤ (j : Int)) := by omega
      clear hc h0 m1 hhas
      go_wp2_with fail
      refine M1.out.mono ?_
      rintro e w2 ⟨rfl, b2⟩
      have B2 := Lib.hid (HB.out.trans (b2.mono HB.out.size))
      clear b2 c1 c2 M1
      go_wp2_with fail
      go_roundw
      case rel => exact ⟨j + 1, by go_num, by omega, B2⟩
      case measure => simp [intOf]; omega
    · go_wp2_with fail
      go_ret
      exact ⟨rfl, HB.out⟩
set_option maxRecDepth 100000 in
set_option maxHeartbeats 4000000 in
theorem xcontP_no {w : World} {ad : Option Addr} {c : Nat} {l : List Pr} (h : PIn w ad c l) (hlen : l.length ≤ 1000000) {bk : Nat} {k : KeysR} (hbk : w.heap[bk]? = some (.cells (keysC k) 107 (0, 0))) (hk : ∀ p ∈ l, k.has p.1 = true) :
    Calls Tryz.prog 63 #[.slice ad l.length c, .func (.func 64) #[] #[pt_ bk]] w fun e w' => e = .returned (.bool false) ∧ Below w.heap.size w w' := by
  have IX := Lib.hid (xindexP_no h hlen hbk hk)
  obtain ⟨n, hn⟩ : ∃ n, n = l.length := ⟨_, rfl⟩
  rw [← hn] at IX ⊢
  clear h hlen hbk hk hn
  go_enter Tryz.func63, Tryz.ntmps63
  go_wp2_with fail
  refine IX.out.mono ?_
  rintro e w2 ⟨rfl, b2⟩
  have B2 := Lib.hid b2
  clear b2 IX
  go_wp2_with fail
  go_ret
  exact ⟨rfl, B2.out⟩
end Go.Proofs.YtghjnkfocjjlnaaGreat
