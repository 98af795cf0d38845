/- The walks of sound.May and the checker. -/
import Derived.Test.YtkcfkanfdbejiaaSoundQ
import Derived.Test.YtkcfkanfdbejiaaHangW
import Derived.Test.YtkcfkanfdbejiaaListW
namespace Go.Proofs.Ytkcfkanfdbejiaa
set_option maxRecDepth 100000
open Go.RowKit Go.Proofs.Ytkcfkanfdbejiaa.Mix
set_option linter.unusedSimpArgs false
set_option linter.unusedVariables false

/-- A checker's block. -/
abbrev ckO (po : Option Addr) (c : CS) : Obj := .cells #[.pointer po, .int .i64 c.count, .int .i64 c.last, .bool c.any] 75 (0, 0)
theorem ck_set1 {w : World} {ck : Nat} {po : Option Addr} {c : CS} (h : w.heap[ck]? = some (ckO po c)) (x : Int) : (w.setCell ⟨ck, 1, none⟩ (.int .i64 x)).heap[ck]? = some (ckO po ⟨x, c.last, c.any⟩) := by
  rw [heap_setCell_same w ck 1 _ _ _ h]; rfl
theorem ck_set2 {w : World} {ck : Nat} {po : Option Addr} {c : CS} (h : w.heap[ck]? = some (ckO po c)) (x : Int) : (w.setCell ⟨ck, 2, none⟩ (.int .i64 x)).heap[ck]? = some (ckO po ⟨c.count, x, c.any⟩) := by
  rw [heap_setCell_same w ck 2 _ _ _ h]; rfl
theorem ck_set3 {w : World} {ck : Nat} {po : Option Addr} {c : CS} (h : w.heap[ck]? = some (ckO po c)) (x : Bool) : (w.setCell ⟨ck, 3, none⟩ (.bool x)).heap[ck]? = some (ckO po ⟨c.count, c.last, x⟩) := by
  rw [heap_setCell_same w ck 3 _ _ _ h]; rfl
theorem ck_free {w : World} {ck : Nat} {po : Option Addr} {c : CS} (h : w.heap[ck]? = some (ckO po c)) (i : Nat) : w.frozen? ⟨ck, i, none⟩ = false := by simp [World.frozen?, h]
theorem ck_lt {w : World} {ck : Nat} {po : Option Addr} {c : CS} (h : w.heap[ck]? = some (ckO po c)) : ck < w.heap.size := (Array.getElem?_eq_some_iff.1 h).1
abbrev Only (ck : Nat) : Nat → Prop := fun b => b = ck
theorem only_set (w : World) (ck i : Nat) (v : Value) : Frame (Only ck) w (w.setCell ⟨ck, i, none⟩ v) := frame_setCell (F := Only ck) (a := ⟨ck, i, none⟩) (show ck = ck from rfl) v
theorem Frame.next {ck : Nat} {a b c : World} (h : Frame (Only ck) a b) (k : Frame (Only ck) b c) : Frame (Only ck) a c := h.trans k fun _ _ h => h
theorem Frame.keep {ck : Nat} {w w' : World} (h : Frame (Only ck) w w') {b : Nat} {o : Obj} (hb : w.heap[b]? = some o) (hn : b ≠ ck) : w'.heap[b]? = some o :=
  (h.block b (Array.getElem?_eq_some_iff.1 hb).1 hn).trans hb

set_option maxRecDepth 100000 in
set_option maxHeartbeats 4000000 in
theorem comes_any {w : World} {ck : Nat} {po : Option Addr} {c : CS} (h : w.heap[ck]? = some (ckO po c)) (key : Int) :
    Calls Try.prog 61 #[.pointer (some ⟨ck, 0, none⟩), .int .i64 key] w fun e w' => e = .returned (.bool (comes c key)) ∧ w'.heap[ck]? = some (ckO po (came c key)) ∧ Frame (Only ck) w w' := by
  have c2 := cell_blk (i := 2) h rfl
  have c3 := cell_blk (i := 3) h rfl
  have f2 := ck_free h 2
  have f3 := ck_free h 3
  have hlt := ck_lt h
  have H2 := Lib.hid (And.intro (ck_set3 (ck_set2 h key) true) ((only_set w ck 2 (.int .i64 key)).next (only_set _ ck 3 (.bool true))))
  clear h
  obtain ⟨count, last, any⟩ := c
  simp only [] at c2 c3
  cases any with
  | false =>
    go_enter Try.func61, Try.ntmps61
    go_wp2_with fail
    go_ret
    exact ⟨rfl, H2.out.1, H2.out.2⟩
  | true =>
    by_cases hk : last < key
    · have e : comes ⟨count, last, true⟩ key = true := by simp [comes, hk]
      rw [e]
      clear e
      go_enter Try.func61, Try.ntmps61
      go_wp2_with fail
      go_ret
      exact ⟨rfl, H2.out.1, H2.out.2⟩
    · have e : comes ⟨count, last, true⟩ key = false := by simp [comes, hk]
      rw [e]
      clear e
      go_enter Try.func61, Try.ntmps61
      go_wp2_with fail
      go_ret
      exact ⟨rfl, H2.out.1, H2.out.2⟩

set_option maxRecDepth 100000 in
set_option maxHeartbeats 4000000 in
theorem ckabove_any {w : World} {ck : Nat} {po : Option Addr} {A : OA} {F : Nat → Prop} {c : CS} (ho : OAt w po A F) (h : w.heap[ck]? = some (ckO po c)) (key t : Int) :
    Calls Try.prog 62 #[.pointer (some ⟨ck, 0, none⟩), .int .i64 key, .int .i64 t] w fun e w' => e = .returned (.bool (aboveO A key t)) ∧ Below w.heap.size w w' := by
  have c0 := cell_blk (i := 0) h rfl
  have hlt := ck_lt h
  have hg := get_any ho t
  clear h ho
  cases hn : isN A t with
  | false =>
    rw [hn] at hg
    rw [show aboveO A key t = true by simp [aboveO, hn]]
    generalize getN A t = nd at hg
    have HG := Lib.hid hg; clear hg hn
    go_enter Try.func62, Try.ntmps62
    go_wp2_with fail
    refine HG.out.mono ?_
    rintro e w1 ⟨rfl, b1⟩
    have z1 := b1.size
    have B1 := Lib.hid b1; clear b1
    go_wp2_with fail
    go_ret
    exact ⟨rfl, B1.out.alloc z1 _⟩
  | true =>
    rw [hn] at hg
    rw [show aboveO A key t = above key (getN A t).key by simp [aboveO, hn]]
    generalize getN A t = nd at hg
    obtain ⟨k, v, l, r, s, g⟩ := nd
    simp only [] at hg
    have HG := Lib.hid hg; clear hg hn
    go_enter Try.func62, Try.ntmps62
    go_wp2_with fail
    refine HG.out.mono ?_
    rintro e w1 ⟨rfl, b1⟩
    have z1 := b1.size
    have B1 := Lib.hid b1; clear b1
    go_wp2_with (go_at_call 67; refine (above_any key k _).mono ?_; rintro e w' ⟨rfl, rfl⟩)
    go_ret
    exact ⟨rfl, B1.out.alloc z1 _⟩

set_option maxRecDepth 100000 in
set_option maxHeartbeats 4000000 in
theorem may_zero (n : Nat) {w : World} {po : Option Addr} {A : OA} {F : Nat → Prop} {ck : Nat} {c : CS} (ho : OAt w po A F) (hck : ¬ F ck) (hc : w.heap[ck]? = some (ckO po c)) (bound : Int) :
    Calls Try.prog 41 #[.pointer (some ⟨ck, 0, none⟩), .int .i64 0, .int .i64 bound] w (fun e w' => e = .returned (.tuple #[.int .i64 (mayF n A 0 bound c).1, .int .i64 (mayF n A 0 bound c).2.1, .bool (mayF n A 0 bound c).2.2.1]) ∧ w'.heap[ck]? = some (ckO po (mayF n A 0 bound c).2.2.2) ∧ Frame (Only ck) w w') := by
  rw [mayF_zero]
  have HC := Lib.hid hc; clear hc ho
  go_enter Try.func41, Try.ntmps41
  go_wp2_with fail
  go_ret3
  exact ⟨rfl, HC.out, Frame.refl _ _⟩

set_option maxRecDepth 100000 in
set_option maxHeartbeats 4000000 in
theorem may_badn (n : Nat) {w : World} {po : Option Addr} {A : OA} {F : Nat → Prop} {ck : Nat} {c : CS} (ho : OAt w po A F) (hck : ¬ F ck) (hc : w.heap[ck]? = some (ckO po c)) (t bound : Int) (h0 : t ≠ 0) (hn : isN A t = false) :
    Calls Try.prog 41 #[.pointer (some ⟨ck, 0, none⟩), .int .i64 t, .int .i64 bound] w (fun e w' => e = .returned (.tuple #[.int .i64 (mayF n A t bound c).1, .int .i64 (mayF n A t bound c).2.1, .bool (mayF n A t bound c).2.2.1]) ∧ w'.heap[ck]? = some (ckO po (mayF n A t bound c).2.2.2) ∧ Frame (Only ck) w w') := by
  rw [mayF_bad n h0 (.inl hn)]
  have hg := get_any ho t
  rw [hn] at hg
  generalize getN A t = nd at hg
  obtain ⟨k, v, l, r, s, g⟩ := nd
  simp only [] at hg
  have HG := Lib.hid hg; clear hg hn ho hck
  have q0 : (t == 0) = false := beq_eq_false_iff_ne.2 h0
  clear h0
  have c0 := cell_blk (i := 0) hc rfl
  have hlt := ck_lt hc
  have HC := Lib.hid hc; clear hc
  go_enter Try.func41, Try.ntmps41
  go_wp2_with fail
  refine HG.out.mono ?_
  rintro e w1 ⟨rfl, b1⟩
  have z1 := b1.size
  have hc1 := (b1.block ck hlt).trans HC.out
  have B1 := Lib.hid b1; clear b1
  have C1 := Lib.hid hc1
  have d1 := cell_blk (i := 1) hc1 rfl
  have d1f := ck_free hc1 1

  clear hc1
  have hlt1 : ck < w1.heap.size := by omega
  have hne : ck ≠ w1.heap.size := by omega
  have W2C := Lib.hid (show ((w1.setCell ⟨ck, 1, none⟩ (.int .i64 (wrap64 (c.count + 1)))).alloc (.cells #[.int .i64 k, .int .i64 v, .int .i64 l, .int .i64 r, .int .i64 s, .int .i64 g] 41)).heap[ck]? = some (ckO po (hit c)) from (((Below.refl _ _).alloc (Nat.le_refl _) (.cells #[.int .i64 k, .int .i64 v, .int .i64 l, .int .i64 r, .int .i64 s, .int .i64 g] 41)).block ck (by simpa using hlt1)).trans (ck_set1 C1.out _))
  have W2F := Lib.hid (show Frame (Only ck) w ((w1.setCell ⟨ck, 1, none⟩ (.int .i64 (wrap64 (c.count + 1)))).alloc (.cells #[.int .i64 k, .int .i64 v, .int .i64 l, .int .i64 r, .int .i64 s, .int .i64 g] 41)) from ((Frame.of_below B1.out).next (only_set w1 ck 1 _)).next (Frame.of_below ((Below.refl _ _).alloc (Nat.le_refl _) (.cells #[.int .i64 k, .int .i64 v, .int .i64 l, .int .i64 r, .int .i64 s, .int .i64 g] 41))))
  go_wp2_with fail
  go_ret3
  exact ⟨rfl, W2C.out, W2F.out⟩

set_option maxRecDepth 100000 in
set_option maxHeartbeats 4000000 in
theorem may_badb (n : Nat) {w : World} {po : Option Addr} {A : OA} {F : Nat → Prop} {ck : Nat} {c : CS} (ho : OAt w po A F) (hck : ¬ F ck) (hc : w.heap[ck]? = some (ckO po c)) (t bound : Int) (h0 : t ≠ 0) (hn : isN A t = true) (hb : bound ≤ t) :
    Calls Try.prog 41 #[.pointer (some ⟨ck, 0, none⟩), .int .i64 t, .int .i64 bound] w (fun e w' => e = .returned (.tuple #[.int .i64 (mayF n A t bound c).1, .int .i64 (mayF n A t bound c).2.1, .bool (mayF n A t bound c).2.2.1]) ∧ w'.heap[ck]? = some (ckO po (mayF n A t bound c).2.2.2) ∧ Frame (Only ck) w w') := by
  rw [mayF_bad n h0 (.inr (.inl hb))]
  have hg := get_any ho t
  rw [hn] at hg
  generalize getN A t = nd at hg
  obtain ⟨k, v, l, r, s, g⟩ := nd
  simp only [] at hg
  have HG := Lib.hid hg; clear hg hn ho hck
  have q0 : (t == 0) = false := beq_eq_false_iff_ne.2 h0
  clear h0
  have hb2 : t ≥ bound := hb
  have c0 := cell_blk (i := 0) hc rfl
  have hlt := ck_lt hc
  have HC := Lib.hid hc; clear hc
  go_enter Try.func41, Try.ntmps41
  go_wp2_with fail
  refine HG.out.mono ?_
  rintro e w1 ⟨rfl, b1⟩
  have z1 := b1.size
  have hc1 := (b1.block ck hlt).trans HC.out
  have B1 := Lib.hid b1; clear b1
  have C1 := Lib.hid hc1
  have d1 := cell_blk (i := 1) hc1 rfl
  have d1f := ck_free hc1 1

  clear hc1
  have hlt1 : ck < w1.heap.size := by omega
  have hne : ck ≠ w1.heap.size := by omega
  have W2C := Lib.hid (show ((w1.setCell ⟨ck, 1, none⟩ (.int .i64 (wrap64 (c.count + 1)))).alloc (.cells #[.int .i64 k, .int .i64 v, .int .i64 l, .int .i64 r, .int .i64 s, .int .i64 g] 41)).heap[ck]? = some (ckO po (hit c)) from (((Below.refl _ _).alloc (Nat.le_refl _) (.cells #[.int .i64 k, .int .i64 v, .int .i64 l, .int .i64 r, .int .i64 s, .int .i64 g] 41)).block ck (by simpa using hlt1)).trans (ck_set1 C1.out _))
  have W2F := Lib.hid (show Frame (Only ck) w ((w1.setCell ⟨ck, 1, none⟩ (.int .i64 (wrap64 (c.count + 1)))).alloc (.cells #[.int .i64 k, .int .i64 v, .int .i64 l, .int .i64 r, .int .i64 s, .int .i64 g] 41)) from ((Frame.of_below B1.out).next (only_set w1 ck 1 _)).next (Frame.of_below ((Below.refl _ _).alloc (Nat.le_refl _) (.cells #[.int .i64 k, .int .i64 v, .int .i64 l, .int .i64 r, .int .i64 s, .int .i64 g] 41))))
  go_wp2_with fail
  go_ret3
  exact ⟨rfl, W2C.out, W2F.out⟩

set_option maxRecDepth 100000 in
set_option maxHeartbeats 4000000 in
theorem may_badc (n : Nat) {w : World} {po : Option Addr} {A : OA} {F : Nat → Prop} {ck : Nat} {c : CS} (ho : OAt w po A F) (hck : ¬ F ck) (hc : w.heap[ck]? = some (ckO po c)) (t bound : Int) (h0 : t ≠ 0) (hn : isN A t = true) (hb : t < bound) (hcc : 1200 < wrap64 (c.count + 1)) :
    Calls Try.prog 41 #[.pointer (some ⟨ck, 0, none⟩), .int .i64 t, .int .i64 bound] w (fun e w' => e = .returned (.tuple #[.int .i64 (mayF n A t bound c).1, .int .i64 (mayF n A t bound c).2.1, .bool (mayF n A t bound c).2.2.1]) ∧ w'.heap[ck]? = some (ckO po (mayF n A t bound c).2.2.2) ∧ Frame (Only ck) w w') := by
  rw [mayF_bad n h0 (.inr (.inr hcc))]
  have hg := get_any ho t
  rw [hn] at hg
  generalize getN A t = nd at hg
  obtain ⟨k, v, l, r, s, g⟩ := nd
  simp only [] at hg
  have HG := Lib.hid hg; clear hg hn ho hck
  have q0 : (t == 0) = false := beq_eq_false_iff_ne.2 h0
  clear h0
  have hb2 : ¬ (bound ≤ t) := by omega
  have c0 := cell_blk (i := 0) hc rfl
  have hlt := ck_lt hc
  have HC := Lib.hid hc; clear hc
  go_enter Try.func41, Try.ntmps41
  go_wp2_with fail
  refine HG.out.mono ?_
  rintro e w1 ⟨rfl, b1⟩
  have z1 := b1.size
  have hc1 := (b1.block ck hlt).trans HC.out
  have B1 := Lib.hid b1; clear b1
  have C1 := Lib.hid hc1
  have d1 := cell_blk (i := 1) hc1 rfl
  have d1f := ck_free hc1 1

  clear hc1
  have hlt1 : ck < w1.heap.size := by omega
  have hne : ck ≠ w1.heap.size := by omega
  have W2C := Lib.hid (show ((w1.setCell ⟨ck, 1, none⟩ (.int .i64 (wrap64 (c.count + 1)))).alloc (.cells #[.int .i64 k, .int .i64 v, .int .i64 l, .int .i64 r, .int .i64 s, .int .i64 g] 41)).heap[ck]? = some (ckO po (hit c)) from (((Below.refl _ _).alloc (Nat.le_refl _) (.cells #[.int .i64 k, .int .i64 v, .int .i64 l, .int .i64 r, .int .i64 s, .int .i64 g] 41)).block ck (by simpa using hlt1)).trans (ck_set1 C1.out _))
  have W2F := Lib.hid (show Frame (Only ck) w ((w1.setCell ⟨ck, 1, none⟩ (.int .i64 (wrap64 (c.count + 1)))).alloc (.cells #[.int .i64 k, .int .i64 v, .int .i64 l, .int .i64 r, .int .i64 s, .int .i64 g] 41)) from ((Frame.of_below B1.out).next (only_set w1 ck 1 _)).next (Frame.of_below ((Below.refl _ _).alloc (Nat.le_refl _) (.cells #[.int .i64 k, .int .i64 v, .int .i64 l, .int .i64 r, .int .i64 s, .int .i64 g] 41))))
  go_wp2_with fail
  go_ret3
  exact ⟨rfl, W2C.out, W2F.out⟩

set_option maxRecDepth 100000 in
set_option maxHeartbeats 4000000 in
theorem cmay_any (n : Nat) : ∀ {w : World} {po : Option Addr} {A : OA} {F : Nat → Prop} {ck : Nat} {c : CS} (ho : OAt w po A F) (hck : ¬ F ck) (hc : w.heap[ck]? = some (ckO po c)) (t bound : Int), bound ≤ (n : Int) →
    Calls Try.prog 41 #[.pointer (some ⟨ck, 0, none⟩), .int .i64 t, .int .i64 bound] w (fun e w' => e = .returned (.tuple #[.int .i64 (mayF n A t bound c).1, .int .i64 (mayF n A t bound c).2.1, .bool (mayF n A t bound c).2.2.1]) ∧ w'.heap[ck]? = some (ckO po (mayF n A t bound c).2.2.2) ∧ Frame (Only ck) w w') := by
  induction n with
  | zero =>
    intro w po A F ck c ho hck hc t bound hb1
    by_cases h0 : t = 0
    · subst h0; exact may_zero _ ho hck hc bound
    cases hn : isN A t with
    | false => exact may_badn _ ho hck hc t bound h0 hn
    | true =>
      by_cases hbt : bound ≤ t
      · exact may_badb _ ho hck hc t bound h0 hn hbt
      by_cases hcc : 1200 < wrap64 (c.count + 1)
      · exact may_badc _ ho hck hc t bound h0 hn (by omega) hcc
      have := isN_pos hn
      omega
  | succ m ih =>
    intro w po A F ck c ho hck hc t bound hb1
    by_cases h0 : t = 0
    · subst h0; exact may_zero _ ho hck hc bound
    cases hn : isN A t with
    | false => exact may_badn _ ho hck hc t bound h0 hn
    | true =>
      by_cases hbt : bound ≤ t
      · exact may_badb _ ho hck hc t bound h0 hn hbt
      by_cases hcc : 1200 < wrap64 (c.count + 1)
      · exact may_badc _ ho hck hc t bound h0 hn (by omega) hcc
      have hb : t < bound := by omega
      have hg := get_any ho t
      rw [hn] at hg
      generalize hgn : getN A t = nd at hg
      obtain ⟨k, v, l, r, s, g⟩ := nd
      simp only [] at hg
      have HG := Lib.hid hg; have HGN := Lib.hid hgn; have HN := Lib.hid hn; have H0 := Lib.hid h0
      have HCC := Lib.hid (show (hit c).count ≤ 1200 from Int.not_lt.1 hcc)
      have q0 : (t == 0) = false := beq_eq_false_iff_ne.2 h0
      have HO := Lib.hid ho
      have hb2 : ¬ (bound ≤ t) := hbt
      have hcc2 : ¬ (1200 < wrap64 (c.count + 1)) := hcc
      clear hg hgn hn h0 ho hbt hcc
      have c0 := cell_blk (i := 0) hc rfl
      have hlt := ck_lt hc
      have HC := Lib.hid hc; clear hc
      go_enter Try.func41, Try.ntmps41
      go_wp2_with fail
      refine HG.out.mono ?_
      rintro e w1 ⟨rfl, b1⟩
      have z1 := b1.size
      have hc1 := (b1.block ck hlt).trans HC.out
      have B1 := Lib.hid b1; clear b1
      have C1 := Lib.hid hc1
      have d1 := cell_blk (i := 1) hc1 rfl
      have d1f := ck_free hc1 1

      clear hc1
      have hlt1 : ck < w1.heap.size := by omega
      have hne : ck ≠ w1.heap.size := by omega
      have W2C := Lib.hid (show ((w1.setCell ⟨ck, 1, none⟩ (.int .i64 (wrap64 (c.count + 1)))).alloc (.cells #[.int .i64 k, .int .i64 v, .int .i64 l, .int .i64 r, .int .i64 s, .int .i64 g] 41)).heap[ck]? = some (ckO po (hit c)) from (((Below.refl _ _).alloc (Nat.le_refl _) (.cells #[.int .i64 k, .int .i64 v, .int .i64 l, .int .i64 r, .int .i64 s, .int .i64 g] 41)).block ck (by simpa using hlt1)).trans (ck_set1 C1.out _))
      have W2F := Lib.hid (show Frame (Only ck) w ((w1.setCell ⟨ck, 1, none⟩ (.int .i64 (wrap64 (c.count + 1)))).alloc (.cells #[.int .i64 k, .int .i64 v, .int .i64 l, .int .i64 r, .int .i64 s, .int .i64 g] 41)) from ((Frame.of_below B1.out).next (only_set w1 ck 1 _)).next (Frame.of_below ((Below.refl _ _).alloc (Nat.le_refl _) (.cells #[.int .i64 k, .int .i64 v, .int .i64 l, .int .i64 r, .int .i64 s, .int .i64 g] 41))))
      have O2 := Lib.hid (HO.out.frame W2F.out (fun b hb e => hck (e ▸ hb)))
      have X2 := Lib.hid (show ((w1.setCell ⟨ck, 1, none⟩ (.int .i64 (wrap64 (c.count + 1)))).alloc (.cells #[.int .i64 k, .int .i64 v, .int .i64 l, .int .i64 r, .int .i64 s, .int .i64 g] 41)).heap[w1.heap.size]? = some (.cells #[.int .i64 k, .int .i64 v, .int .i64 l, .int .i64 r, .int .i64 s, .int .i64 g] 41 (0, 0)) by (have e : (w1.setCell ⟨ck, 1, none⟩ (.int .i64 (wrap64 (c.count + 1)))).heap.size = w1.heap.size := (by simp [World.setCell]); have h := heap_alloc_new (w1.setCell ⟨ck, 1, none⟩ (.int .i64 (wrap64 (c.count + 1)))) (.cells #[.int .i64 k, .int .i64 v, .int .i64 l, .int .i64 r, .int .i64 s, .int .i64 g] 41); rw [e] at h; exact h))
      have cl := ih O2.out hck W2C.out l t (by omega)
      generalize hL : mayF m A l t (hit c) = L at cl
      obtain ⟨ls, lh, lok, lc⟩ := L
      simp only [] at cl
      have HL := Lib.hid hL
      have CL := Lib.hid cl; clear cl hL
      go_wp2_with fail
      refine CL.out.mono ?_
      rintro e w3 ⟨rfl, hc3, fr3⟩
      have z3 := fr3.size
      simp at z3
      have C3 := Lib.hid hc3
      have O3 := Lib.hid (O2.out.frame fr3 (fun b hb e => hck (e ▸ hb)))
      have x3 := fr3.keep X2.out (by omega)
      have X3 := Lib.hid x3
      have F3 := Lib.hid (W2F.out.next fr3)
      have hlt3 : w1.heap.size < w3.heap.size := by omega
      have v0 := cell_blk (i := 0) x3 rfl
      clear hc3 fr3 x3
      cases lok with
      | false =>
        have HQ := Lib.hid (mayF_l H0.out HN.out hb HCC.out HGN.out HL.out)
        go_wp2_with fail
        go_ret3
        rw [HQ.out]
        exact ⟨rfl, C3.out, F3.out⟩
      | true =>
        have ck4 := comes_any C3.out k
        cases hk : comes lc k with
        | false =>
          have HQ := Lib.hid (mayF_c H0.out HN.out hb HCC.out HGN.out HL.out hk)
          rw [hk] at ck4
          have CK := Lib.hid ck4; clear ck4 hk
          go_wp2_with fail
          refine CK.out.mono ?_
          rintro e w4 ⟨rfl, hc4, fr4⟩
          have C4 := Lib.hid hc4
          have F4 := Lib.hid (F3.out.next fr4)
          clear hc4 fr4
          go_wp2_with fail
          go_ret3
          rw [HQ.out]
          exact ⟨rfl, C4.out, F4.out⟩
        | true =>
          rw [hk] at ck4
          have HK := Lib.hid hk
          have CK := Lib.hid ck4; clear ck4 hk
          go_wp2_with fail
          refine CK.out.mono ?_
          rintro e w4 ⟨rfl, hc4, fr4⟩
          have z4 := fr4.size
          have C4 := Lib.hid hc4
          have O4 := Lib.hid (O3.out.frame fr4 (fun b hb e => hck (e ▸ hb)))
          have x4 := fr4.keep X3.out (by omega)
          have X4 := Lib.hid x4
          have F4 := Lib.hid (F3.out.next fr4)
          have hlt4 : w1.heap.size < w4.heap.size := by omega
          have y0 := cell_blk (i := 0) x4 rfl
          have y2 := cell_blk (i := 3) x4 rfl
          clear hc4 fr4 x4 v0
          have cr := ih O4.out hck C4.out r t (by omega)
          generalize hR : mayF m A r t (came lc k) = R at cr
          obtain ⟨rs, rh, rok, rc⟩ := R
          simp only [] at cr
          have HR := Lib.hid hR
          have CR := Lib.hid cr; clear cr hR
          go_wp2_with fail
          refine CR.out.mono ?_
          rintro e w5 ⟨rfl, hc5, fr5⟩
          have z5 := fr5.size
          have C5 := Lib.hid hc5
          have O5 := Lib.hid (O4.out.frame fr5 (fun b hb e => hck (e ▸ hb)))
          have x5 := fr5.keep X4.out (by omega)
          have X5 := Lib.hid x5
          have F5 := Lib.hid (F4.out.next fr5)
          have u0 := cell_blk (i := 0) x5 rfl
          have u5 := cell_blk (i := 5) x5 rfl
          have u2 := cell_blk (i := 2) x5 rfl
          have u3 := cell_blk (i := 3) x5 rfl
          have u4 := cell_blk (i := 4) x5 rfl
          have hlt5 : w1.heap.size < w5.heap.size := by omega
          clear hc5 fr5 x5 y0 y2
          by_cases hm : lh < rh
          · have HMX := Lib.hid (show mx lh rh = rh by unfold mx; rw [if_pos hm])
            have HQ := Lib.hid (mayF_r H0.out HN.out hb HCC.out HGN.out HL.out HK.out HR.out); clear HR
            rw [HMX.out] at HQ
            cases rok with
            | false =>
              have HQ2 := HQ.out
              go_wp2_with fail
              go_ret3
              rw [HQ.out]
              exact ⟨by simp [], C5.out, F5.out⟩
            | true =>
              cases q1 : (s == wrap64 (wrap64 (ls + rs) + 1)) with
              | false =>
                have Q1 := Lib.hid q1
                go_wp2_with fail
                go_ret3
                rw [HQ.out]
                exact ⟨by simp [Q1.out], C5.out, F5.out⟩
              | true =>
                cases q2 : (g == wrap64 (rh + 1)) with
                | false =>
                  have Q1 := Lib.hid q1
                  have Q2 := Lib.hid q2
                  go_wp2_with fail
                  go_ret3
                  rw [HQ.out]
                  exact ⟨by simp [Q1.out, Q2.out], C5.out, F5.out⟩
                | true =>
                  have Q1 := Lib.hid q1
                  have Q2 := Lib.hid q2
                  have ca := ckabove_any O5.out C5.out k l
                  cases p1 : aboveO A k l with
                  | false =>
                    rw [p1] at ca
                    have P1 := Lib.hid p1
                    have CA := Lib.hid ca; clear ca p1
                    go_wp2_with fail
                    refine CA.out.mono ?_
                    rintro e w6 ⟨rfl, b6⟩
                    have z6 := b6.size
                    have e6 := (b6.block w1.heap.size (by omega)).trans X5.out
                    have C6 := Lib.hid ((b6.block ck (by omega)).trans C5.out)
                    have F6 := Lib.hid (F5.out.next (Frame.of_below b6))
                    clear b6
                    go_wp2_with fail
                    go_ret3
                    rw [HQ.out]
                    exact ⟨by simp [Q1.out, Q2.out, P1.out], C6.out, F6.out⟩
                  | true =>
                    rw [p1] at ca
                    have P1 := Lib.hid p1
                    have CA := Lib.hid ca; clear ca p1
                    go_wp2_with fail
                    refine CA.out.mono ?_
                    rintro e w6 ⟨rfl, b6⟩
                    have z6 := b6.size
                    have x6 := (b6.block w1.heap.size (by omega)).trans X5.out
                    have C6 := Lib.hid ((b6.block ck (by omega)).trans C5.out)
                    have O6 := Lib.hid (O5.out.below b6)
                    have F6 := Lib.hid (F5.out.next (Frame.of_below b6))
                    clear b6
                    have y0 := cell_blk (i := 0) x6 rfl
                    have y2 := cell_blk (i := 3) x6 rfl
                    have cb := ckabove_any O6.out C6.out k r
                    have hlt6 : w1.heap.size < w6.heap.size := by omega
                    clear x6
                    generalize aboveO A k r = p2 at cb HQ
                    have CB := Lib.hid cb; clear cb
                    go_wp2_with fail
                    refine CB.out.mono ?_
                    rintro e w7 ⟨rfl, b7⟩
                    have C7 := Lib.hid ((b7.block ck (by omega)).trans C6.out)
                    have F7 := Lib.hid (F6.out.next (Frame.of_below b7))
                    clear b7
                    go_wp2_with fail
                    go_ret3
                    rw [HQ.out]
                    exact ⟨by simp [Q1.out, Q2.out, P1.out], C7.out, F7.out⟩
          · have HMX := Lib.hid (show mx lh rh = lh by unfold mx; rw [if_neg hm])
            have HQ := Lib.hid (mayF_r H0.out HN.out hb HCC.out HGN.out HL.out HK.out HR.out); clear HR
            rw [HMX.out] at HQ
            cases rok with
            | false =>
              have HQ2 := HQ.out
              go_wp2_with fail
              go_ret3
              rw [HQ.out]
              exact ⟨by simp [], C5.out, F5.out⟩
            | true =>
              cases q1 : (s == wrap64 (wrap64 (ls + rs) + 1)) with
              | false =>
                have Q1 := Lib.hid q1
                go_wp2_with fail
                go_ret3
                rw [HQ.out]
                exact ⟨by simp [Q1.out], C5.out, F5.out⟩
              | true =>
                cases q2 : (g == wrap64 (lh + 1)) with
                | false =>
                  have Q1 := Lib.hid q1
                  have Q2 := Lib.hid q2
                  go_wp2_with fail
                  go_ret3
                  rw [HQ.out]
                  exact ⟨by simp [Q1.out, Q2.out], C5.out, F5.out⟩
                | true =>
                  have Q1 := Lib.hid q1
                  have Q2 := Lib.hid q2
                  have ca := ckabove_any O5.out C5.out k l
                  cases p1 : aboveO A k l with
                  | false =>
                    rw [p1] at ca
                    have P1 := Lib.hid p1
                    have CA := Lib.hid ca; clear ca p1
                    go_wp2_with fail
                    refine CA.out.mono ?_
                    rintro e w6 ⟨rfl, b6⟩
                    have z6 := b6.size
                    have e6 := (b6.block w1.heap.size (by omega)).trans X5.out
                    have C6 := Lib.hid ((b6.block ck (by omega)).trans C5.out)
                    have F6 := Lib.hid (F5.out.next (Frame.of_below b6))
                    clear b6
                    go_wp2_with fail
                    go_ret3
                    rw [HQ.out]
                    exact ⟨by simp [Q1.out, Q2.out, P1.out], C6.out, F6.out⟩
                  | true =>
                    rw [p1] at ca
                    have P1 := Lib.hid p1
                    have CA := Lib.hid ca; clear ca p1
                    go_wp2_with fail
                    refine CA.out.mono ?_
                    rintro e w6 ⟨rfl, b6⟩
                    have z6 := b6.size
                    have x6 := (b6.block w1.heap.size (by omega)).trans X5.out
                    have C6 := Lib.hid ((b6.block ck (by omega)).trans C5.out)
                    have O6 := Lib.hid (O5.out.below b6)
                    have F6 := Lib.hid (F5.out.next (Frame.of_below b6))
                    clear b6
                    have y0 := cell_blk (i := 0) x6 rfl
                    have y2 := cell_blk (i := 3) x6 rfl
                    have cb := ckabove_any O6.out C6.out k r
                    have hlt6 : w1.heap.size < w6.heap.size := by omega
                    clear x6
                    generalize aboveO A k r = p2 at cb HQ
                    have CB := Lib.hid cb; clear cb
                    go_wp2_with fail
                    refine CB.out.mono ?_
                    rintro e w7 ⟨rfl, b7⟩
                    have C7 := Lib.hid ((b7.block ck (by omega)).trans C6.out)
                    have F7 := Lib.hid (F6.out.next (Frame.of_below b7))
                    clear b7
                    go_wp2_with fail
                    go_ret3
                    rw [HQ.out]
                    exact ⟨by simp [Q1.out, Q2.out, P1.out], C7.out, F7.out⟩

noncomputable def mayO (A : OA) (t : Int) : Bool := A.isSome && (mayF (usedO A + 1).toNat A t (usedO A + 1) ⟨0, 0, false⟩).2.2.1
set_option maxRecDepth 100000 in
set_option maxHeartbeats 4000000 in
theorem mayO_any {w : World} {po : Option Addr} {A : OA} {F : Nat → Prop} (h : OAt w po A F) (t : Int) :
    Calls Try.prog 15 #[.pointer po, .int .i64 t] w fun e w' => e = .returned (.bool (mayO A t)) ∧ Below w.heap.size w w' := by
  have hu : 0 ≤ usedO A ∧ usedO A ≤ 60000 := by
    rcases h with ⟨rfl, rfl, _⟩ | ⟨a, p, sv, row, rfl, rfl, h2⟩
    · exact ⟨Int.le_refl _, by show (0 : Int) ≤ 60000; omega⟩
    · have h3 := h2.ok.fits; have h4 := h2.ok.most
      exact ⟨by show (0 : Int) ≤ a.slots.length; omega, by show (a.slots.length : Int) ≤ 60000; omega⟩
  have hnew := heap_alloc_new w (.cells #[.pointer po, .int .i64 0, .int .i64 0, .bool false] 75)
  have ho := h.alloc (.cells #[.pointer po, .int .i64 0, .int .i64 0, .bool false] 75)
  have hck : ¬ F w.heap.size := fun hf => by have := h.lt _ hf; omega
  have cu := used_any ho
  have cm := cmay_any (usedO A + 1).toNat ho hck (c := ⟨0, 0, false⟩) hnew t (usedO A + 1) (by omega)
  have hb1 : Below w.heap.size w (w.alloc (.cells #[.pointer po, .int .i64 0, .int .i64 0, .bool false] 75)) := (Below.refl _ _).alloc (Nat.le_refl _) _
  have hA : A.isSome = po.isSome := by
    rcases h with ⟨rfl, rfl, _⟩ | ⟨a, p, sv, row, rfl, rfl, _⟩ <;> rfl
  rw [show mayO A t = (po.isSome && (mayF (usedO A + 1).toNat A t (usedO A + 1) ⟨0, 0, false⟩).2.2.1) by unfold mayO; rw [hA]]
  generalize mayF (usedO A + 1).toNat A t (usedO A + 1) ⟨0, 0, false⟩ = M at cm
  obtain ⟨ms, mh, mk, mc⟩ := M
  generalize usedO A = u at cu cm hu
  simp only [] at cm
  have CU := Lib.hid cu; have CM := Lib.hid cm; have HB := Lib.hid hb1
  clear cu cm hb1 hA hck ho h hnew
  cases po with
  | none =>
    go_enter Try.func15, Try.ntmps15
    go_wp2_with fail
    refine CU.out.mono ?_
    rintro e w' ⟨rfl, rfl⟩
    go_wp2_with fail
    refine CM.out.mono ?_
    rintro e w2 ⟨rfl, _, fr⟩
    have B2 := Lib.hid (HB.out.trans (fr.below (B := w.heap.size) (fun x hx => by rw [hx]; exact Nat.le_refl _) (by simp)))
    clear fr
    go_wp2_with fail
    go_ret
    exact ⟨rfl, B2.out⟩
  | some p =>
    go_enter Try.func15, Try.ntmps15
    go_wp2_with fail
    refine CU.out.mono ?_
    rintro e w' ⟨rfl, rfl⟩
    go_wp2_with fail
    refine CM.out.mono ?_
    rintro e w2 ⟨rfl, _, fr⟩
    have B2 := Lib.hid (HB.out.trans (fr.below (B := w.heap.size) (fun x hx => by rw [hx]; exact Nat.le_refl _) (by simp)))
    clear fr
    go_wp2_with fail
    go_ret
    exact ⟨rfl, B2.out⟩


end Go.Proofs.Ytkcfkanfdbejiaa
