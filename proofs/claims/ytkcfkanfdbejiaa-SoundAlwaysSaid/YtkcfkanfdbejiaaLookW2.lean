/- What package look's loops tell, as plain functions, and their walks. -/
import Derived.Test.YtkcfkanfdbejiaaLookW
namespace Go.Proofs.Ytkcfkanfdbejiaa
set_option maxRecDepth 100000
open Go.RowKit
set_option linter.unusedSimpArgs false
set_option linter.unusedVariables false

def sizeO (A : OA) (t : Int) : Int := (getN A t).size
def lgF : Nat → OA → Int → Int → Int × Bool
  | 0, _, _, _ => (0, false)
  | n + 1, A, t, key => if isN A t = false then (0, false) else if (getH A t).key = key then ((getH A t).val, true) else if key < (getH A t).key then lgF n A (getH A t).left key else lgF n A (getH A t).right key
def lbF : Nat → OA → Int → Int → Int → Int
  | 0, _, _, _, out => out
  | n + 1, A, t, key, out => if isN A t = false then out else if (getH A t).key = key then wrap64 (out + sizeO A (getH A t).left) else if key < (getH A t).key then lbF n A (getH A t).left key out else lbF n A (getH A t).right key (wrap64 (out + wrap64 (sizeO A (getH A t).left + 1)))
def lnF : Nat → OA → Int → Int → Int × Int × Bool
  | 0, _, _, _ => (0, 0, false)
  | n + 1, A, t, i => if isN A t = false then (0, 0, false) else if i = sizeO A (getH A t).left then ((getH A t).key, (getH A t).val, true) else if i < sizeO A (getH A t).left then lnF n A (getH A t).left i else lnF n A (getH A t).right (wrap64 (wrap64 (i - sizeO A (getH A t).left) - 1))
theorem isN_pos {A : OA} {t : Int} (h : isN A t = true) : 1 ≤ t := by
  cases A with
  | none => exact absurd h (by simp [isN, kindO])
  | some a => exact (isN_in h).1
theorem hang_lt (A : OA) {t : Int} (x : Int) (ht : 1 ≤ t) : 0 ≤ hangO A t x ∧ hangO A t x < t := by
  unfold hangO
  split
  · rename_i hh
    have := isN_pos hh.1
    omega
  · omega
theorem getH_lt {A : OA} {t : Int} (h : isN A t = true) : (0 ≤ (getH A t).left ∧ (getH A t).left < t) ∧ 0 ≤ (getH A t).right ∧ (getH A t).right < t := ⟨hang_lt A _ (isN_pos h), hang_lt A _ (isN_pos h)⟩
theorem lgF_no {n : Nat} {A : OA} {t key : Int} (h : isN A t = false) : lgF n A t key = (0, false) := by
  cases n with
  | zero => rfl
  | succ n => simp only [lgF]; rw [if_pos h]
theorem lbF_no {n : Nat} {A : OA} {t key out : Int} (h : isN A t = false) : lbF n A t key out = out := by
  cases n with
  | zero => rfl
  | succ n => simp only [lbF]; rw [if_pos h]
theorem lnF_no {n : Nat} {A : OA} {t i : Int} (h : isN A t = false) : lnF n A t i = (0, 0, false) := by
  cases n with
  | zero => rfl
  | succ n => simp only [lnF]; rw [if_pos h]
theorem lgF_yes {n : Nat} {A : OA} {t key : Int} (h : isN A t = true) : lgF (n + 1) A t key = if (getH A t).key = key then ((getH A t).val, true) else if key < (getH A t).key then lgF n A (getH A t).left key else lgF n A (getH A t).right key := by
  simp only [lgF]; rw [if_neg (by rw [h]; decide)]
theorem lbF_yes {n : Nat} {A : OA} {t key out : Int} (h : isN A t = true) : lbF (n + 1) A t key out = if (getH A t).key = key then wrap64 (out + sizeO A (getH A t).left) else if key < (getH A t).key then lbF n A (getH A t).left key out else lbF n A (getH A t).right key (wrap64 (out + wrap64 (sizeO A (getH A t).left + 1))) := by
  simp only [lbF]; rw [if_neg (by rw [h]; decide)]
theorem lnF_yes {n : Nat} {A : OA} {t i : Int} (h : isN A t = true) : lnF (n + 1) A t i = if i = sizeO A (getH A t).left then ((getH A t).key, (getH A t).val, true) else if i < sizeO A (getH A t).left then lnF n A (getH A t).left i else lnF n A (getH A t).right (wrap64 (wrap64 (i - sizeO A (getH A t).left) - 1)) := by
  simp only [lnF]; rw [if_neg (by rw [h]; decide)]

set_option maxHeartbeats 1000000 in
theorem lsize_any {w : World} {po : Option Addr} {A : OA} {F : Nat → Prop} (h : OAt w po A F) (t : Int) :
    Calls Try.prog 75 #[.pointer po, .int .i64 t] w fun e w' => e = .returned (.int .i64 (getN A t).size) ∧ Below w.heap.size w w' := by
  have HG := Lib.hid (get_any h t); clear h
  go_enter Try.func75, Try.ntmps75
  go_wp2_with fail
  refine HG.out.mono ?_
  rintro e w1 ⟨rfl, b1⟩
  have B1 := Lib.hid b1; clear b1
  go_wp2_with fail
  go_ret
  exact ⟨rfl, B1.out.alloc B1.out.size _⟩

set_option maxRecDepth 100000 in
set_option maxHeartbeats 4000000 in
theorem lookGet_any {w : World} {po : Option Addr} {A : OA} {F : Nat → Prop} (h : OAt w po A F) (N : Nat) (t key : Int) (hN : t < N) :
    Calls Try.prog 57 #[.pointer po, .int .i64 t, .int .i64 key] w fun e w' => e = .returned (.tuple #[.int .i64 (lgF N A t key).1, .bool (lgF N A t key).2]) ∧ Below w.heap.size w w' := by
  have HH := Lib.hid h; clear h
  go_enter Try.func57, Try.ntmps57
  go_wp2_with fail
  go_loopw [1] (fun tv wr => ∃ (t' : Int) (n' : Nat), tv = .int .i64 t' ∧ Hid (t' < n' ∧ lgF N A t key = lgF n' A t' key ∧ Below w.heap.size w wr)) (fun tv _ => (intOf tv).toNat)
  case atStart => exact ⟨t, N, rfl, Lib.hid ⟨hN, rfl, Below.refl _ _⟩⟩
  case round =>
    obtain ⟨t', n', rfl, HR⟩ := hrel
    obtain ⟨hlt, heq, hbel⟩ := HR.out
    have hg := lget_any (HH.out.below hbel) t'
    have hz := hbel.size
    by_cases hn : isN A t' = true
    · have hp := isN_pos hn
      obtain ⟨m, rfl⟩ : ∃ m, n' = m + 1 := ⟨n' - 1, by omega⟩
      rw [lgF_yes hn] at heq
      have hch := getH_lt hn
      rw [hn] at hg
      generalize getH A t' = nd at hg heq hch
      obtain ⟨k, v, l, r, s, g⟩ := nd
      simp only [] at hg heq hch
      have HG := Lib.hid hg
      have HB := Lib.hid hbel
      have HC := Lib.hid hch
      have HL := Lib.hid hlt
      have HP := Lib.hid hp
      clear hg hbel hch hlt HR hn hp
      by_cases hk : k = key
      · subst hk
        rw [if_pos rfl] at heq
        have HE := Lib.hid heq; clear heq
        have q := beq_self_eq_true k
        go_wp2_with fail
        refine HG.out.mono ?_
        rintro e w1 ⟨rfl, b1⟩
        have B1 := Lib.hid ((HB.out.trans (b1.mono HB.out.size)).alloc (by have := b1.size; omega) (.cells #[.int .i64 k, .int .i64 v, .int .i64 l, .int .i64 r, .int .i64 s, .int .i64 g] 41)); clear b1
        have D1 := Lib.hid (heap_alloc_new w1 (.cells #[.int .i64 k, .int .i64 v, .int .i64 l, .int .i64 r, .int .i64 s, .int .i64 g] 41))
        go_wp2_with fail
        refine (holds_any k v l r s g k _).mono ?_
        rintro e w2 ⟨rfl, b2⟩
        have D2 := Lib.hid ((b2.block w1.heap.size (by simp)).trans D1.out)
        have B2 := Lib.hid (B1.out.trans (b2.mono B1.out.size)); clear b2
        have x0 := cell_blk (i := 0) D2.out rfl
        have x1 := cell_blk (i := 1) D2.out rfl
        have x2 := cell_blk (i := 2) D2.out rfl
        have x3 := cell_blk (i := 3) D2.out rfl
        go_wp2_with fail
        go_ret2
        exact ⟨by rw [HE.out]; rfl, B2.out⟩
      · rw [if_neg hk] at heq
        have q : (k == key) = false := beq_eq_false_iff_ne.2 hk
        by_cases hlk : key < k
        · rw [if_pos hlk] at heq
          have HE := Lib.hid heq; clear heq
          clear hk
          go_wp2_with fail
          refine HG.out.mono ?_
          rintro e w1 ⟨rfl, b1⟩
          have B1 := Lib.hid ((HB.out.trans (b1.mono HB.out.size)).alloc (by have := b1.size; omega) (.cells #[.int .i64 k, .int .i64 v, .int .i64 l, .int .i64 r, .int .i64 s, .int .i64 g] 41)); clear b1
          have D1 := Lib.hid (heap_alloc_new w1 (.cells #[.int .i64 k, .int .i64 v, .int .i64 l, .int .i64 r, .int .i64 s, .int .i64 g] 41))
          go_wp2_with fail
          refine (holds_any k v l r s g key _).mono ?_
          rintro e w2 ⟨rfl, b2⟩
          have D2 := Lib.hid ((b2.block w1.heap.size (by simp)).trans D1.out)
          have B2 := Lib.hid (B1.out.trans (b2.mono B1.out.size)); clear b2
          have x0 := cell_blk (i := 0) D2.out rfl
          have x1 := cell_blk (i := 1) D2.out rfl
          have x2 := cell_blk (i := 2) D2.out rfl
          have x3 := cell_blk (i := 3) D2.out rfl
          go_wp2_with fail
          go_roundw
          case rel => exact ⟨l, m, rfl, Lib.hid ⟨by have h1 := HC.out.1.2; have h2 := HL.out; omega, HE.out, B2.out⟩⟩
          case measure => have h1 := HC.out.1; have h2 := HP.out; simp [intOf]; omega
        · rw [if_neg hlk] at heq
          have HE := Lib.hid heq; clear heq
          clear hk
          go_wp2_with fail
          refine HG.out.mono ?_
          rintro e w1 ⟨rfl, b1⟩
          have B1 := Lib.hid ((HB.out.trans (b1.mono HB.out.size)).alloc (by have := b1.size; omega) (.cells #[.int .i64 k, .int .i64 v, .int .i64 l, .int .i64 r, .int .i64 s, .int .i64 g] 41)); clear b1
          have D1 := Lib.hid (heap_alloc_new w1 (.cells #[.int .i64 k, .int .i64 v, .int .i64 l, .int .i64 r, .int .i64 s, .int .i64 g] 41))
          go_wp2_with fail
          refine (holds_any k v l r s g key _).mono ?_
          rintro e w2 ⟨rfl, b2⟩
          have D2 := Lib.hid ((b2.block w1.heap.size (by simp)).trans D1.out)
          have B2 := Lib.hid (B1.out.trans (b2.mono B1.out.size)); clear b2
          have x0 := cell_blk (i := 0) D2.out rfl
          have x1 := cell_blk (i := 1) D2.out rfl
          have x2 := cell_blk (i := 2) D2.out rfl
          have x3 := cell_blk (i := 3) D2.out rfl
          go_wp2_with fail
          go_roundw
          case rel => exact ⟨r, m, rfl, Lib.hid ⟨by have h1 := HC.out.2.2; have h2 := HL.out; omega, HE.out, B2.out⟩⟩
          case measure => have h1 := HC.out.2; have h2 := HP.out; simp [intOf]; omega
    · have hn2 : isN A t' = false := by simpa using hn
      rw [lgF_no hn2] at heq
      rw [hn2] at hg
      generalize getH A t' = nd at hg
      have HG := Lib.hid hg
      have HB := Lib.hid hbel
      have HE := Lib.hid heq
      clear hg hbel hn hn2 HR heq
      go_wp2_with fail
      refine HG.out.mono ?_
      rintro e w1 ⟨rfl, b1⟩
      have B1 := Lib.hid (HB.out.trans (b1.mono HB.out.size)); clear b1
      go_wp2_with fail
      go_ret2
      exact ⟨by rw [HE.out]; rfl, B1.out.alloc B1.out.size _⟩

end Go.Proofs.Ytkcfkanfdbejiaa
