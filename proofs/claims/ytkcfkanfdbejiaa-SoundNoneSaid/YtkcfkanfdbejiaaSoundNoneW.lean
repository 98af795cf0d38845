/- The walk of the law SoundNone. -/
import Derived.Test.YtkcfkanfdbejiaaAwake10
import Derived.Test.YtkcfkanfdbejiaaRefP
namespace Go.Proofs.Ytkcfkanfdbejiaa
set_option maxRecDepth 100000
open Go.RowKit
set_option linter.unusedSimpArgs false
set_option linter.unusedVariables false

theorem ints_later {w w' : World} {ad : Option Addr} {c : Nat} {l : List Int} (h : IntsIn w ad c l) (hb : Below w.heap.size w w') : IntsIn w' ad c l := by
  rcases h with ⟨h1, h2, h3⟩ | ⟨x, rfl, hc⟩
  · exact .inl ⟨h1, h2, h3⟩
  · refine .inr ⟨x, rfl, fun j hj => ?_⟩
    have h1 := hc j hj
    exact (hb.cell (World.block_lt_of_cell? w _ h1)).trans h1

set_option maxRecDepth 100000 in
set_option maxHeartbeats 4000000 in
theorem sameN1_any {w : World} {p : Nat} {a : Ar} {F : Nat → Prop} (ho : OAt w (some ⟨p, 0, none⟩) (some a) F) (t u : Int) (h0 : t ≠ 0) (hn : isN (some a) t = false) :
    Calls Try.prog 16 #[.pointer (some ⟨p, 0, none⟩), .int .i64 t, .int .i64 u] w fun e w' => e = .returned (.bool false) ∧ Below w.heap.size w w' := by
  have q1 : (t == 0) = false := beq_eq_false_iff_ne.2 h0
  have q1b : (t != 0) = true := by rw [bne, q1]; rfl
  have hg1 := get_any ho t
  have hg2 := fun (w' : World) (hb : Below w.heap.size w w') => get_any (ho.below hb) u
  rw [hn] at hg1
  generalize isN (some a) u = n2 at hg2
  generalize getN (some a) t = nd1 at hg1
  generalize getN (some a) u = nd2 at hg2
  have G1 := Lib.hid hg1; have G2 := Lib.hid hg2; clear hg1 hg2 ho
  clear h0 hn
  go_enter Try.func16, Try.ntmps16
  go_wp2_with fail
  refine G1.out.mono ?_
  rintro e w1 ⟨rfl, b1⟩
  have z1 := b1.size
  have B1 := Lib.hid (b1.alloc z1 (.cells #[.int .i64 nd1.key, .int .i64 nd1.val, .int .i64 nd1.left, .int .i64 nd1.right, .int .i64 nd1.size, .int .i64 nd1.high] 41))
  clear b1
  go_wp2_with fail
  refine (G2.out _ B1.out).mono ?_
  rintro e w2 ⟨rfl, b2⟩
  have z2 := b2.size
  simp at z2
  have B2 := Lib.hid ((B1.out.trans (b2.mono B1.out.size)).alloc (by omega) (.cells #[.int .i64 nd2.key, .int .i64 nd2.val, .int .i64 nd2.left, .int .i64 nd2.right, .int .i64 nd2.size, .int .i64 nd2.high] 41))
  clear b2
  go_wp2_with fail
  go_ret
  exact ⟨rfl, B2.out⟩

set_option maxRecDepth 100000 in
set_option maxHeartbeats 4000000 in
theorem sameN2_any {w : World} {p : Nat} {a : Ar} {F : Nat → Prop} (ho : OAt w (some ⟨p, 0, none⟩) (some a) F) (u : Int) (h0 : u ≠ 0) (hn : isN (some a) u = false) :
    Calls Try.prog 16 #[.pointer (some ⟨p, 0, none⟩), .int .i64 0, .int .i64 u] w fun e w' => e = .returned (.bool false) ∧ Below w.heap.size w w' := by
  have q1 : (u == 0) = false := beq_eq_false_iff_ne.2 h0
  have q1b : (u != 0) = true := by rw [bne, q1]; rfl
  have hg1 := get_any ho 0
  have hg2 := fun (w' : World) (hb : Below w.heap.size w w') => get_any (ho.below hb) u
  rw [isN_zero a] at hg1
  rw [hn] at hg2
  generalize getN (some a) 0 = nd1 at hg1
  generalize getN (some a) u = nd2 at hg2
  have G1 := Lib.hid hg1; have G2 := Lib.hid hg2; clear hg1 hg2 ho
  clear h0 hn
  go_enter Try.func16, Try.ntmps16
  go_wp2_with fail
  refine G1.out.mono ?_
  rintro e w1 ⟨rfl, b1⟩
  have z1 := b1.size
  have B1 := Lib.hid (b1.alloc z1 (.cells #[.int .i64 nd1.key, .int .i64 nd1.val, .int .i64 nd1.left, .int .i64 nd1.right, .int .i64 nd1.size, .int .i64 nd1.high] 41))
  clear b1
  go_wp2_with fail
  refine (G2.out _ B1.out).mono ?_
  rintro e w2 ⟨rfl, b2⟩
  have z2 := b2.size
  simp at z2
  have B2 := Lib.hid ((B1.out.trans (b2.mono B1.out.size)).alloc (by omega) (.cells #[.int .i64 nd2.key, .int .i64 nd2.val, .int .i64 nd2.left, .int .i64 nd2.right, .int .i64 nd2.size, .int .i64 nd2.high] 41))
  clear b2
  go_wp2_with fail
  go_ret
  exact ⟨rfl, B2.out⟩

def noneA (r : Nat) (vals : List Int) : Ar := ⟨9, [⟨2 + (r : Int), vals⟩, ⟨0, [1]⟩], 0⟩
theorem none_1 {vals : List Int} (r : Nat) (h : ¬ 12 < (vals.length : Int)) : makeO (some (newA 9)) (2 + (r : Int)) vals = (1, 0, some ⟨9, [⟨2 + (r : Int), vals⟩], 0⟩) := by
  show (if 2 + (r : Int) < 1 ∨ 12 < (vals.length : Int) then _ else _) = _
  rw [if_neg (by omega)]
  rfl
theorem none_2 (r : Nat) (vals : List Int) : cellO (some ⟨9, [⟨2 + (r : Int), vals⟩], 0⟩) 1 = (2, 0, some (noneA r vals)) := rfl
theorem none_no (r : Nat) (vals : List Int) (t : Int) : isN (some (noneA r vals)) t = false := by
  unfold isN
  rw [kind_some]
  split
  · rename_i h
    have hl : ((noneA r vals).slots.length : Int) = 2 := rfl
    rw [hl] at h
    rcases (show t = 1 ∨ t = 2 by omega) with rfl | rfl
    · have e : (slotAt (noneA r vals) 1).kind = 2 + (r : Int) := rfl
      rw [e]; simp; omega
    · have e : (slotAt (noneA r vals) 2).kind = 0 := rfl
      rw [e]; rfl
  · rfl

set_option maxRecDepth 100000 in
set_option maxHeartbeats 4000000 in
theorem soundNone_walk (W : World) (t : Int) (_ : -9223372036854775808 ≤ t ∧ t ≤ 9223372036854775807) (kind : Int) (_ : -9223372036854775808 ≤ kind ∧ kind ≤ 9223372036854775807) {ad : Option Addr} {c : Nat} {vals : List Int} (hv : IntsArg W ad c vals) :
    Calls Try.prog 5 #[.int .i64 t, .int .i64 kind, .slice ad vals.length c] W fun e w' => e = .returned (.bool true) ∧ Below W.heap.size W w' := by
  by_cases hlen : 12 < (vals.length : Int)
  · go_enter Try.func5, Try.ntmps5
    go_wp2_with (go_at_call 18; refine (awake10_any W _ (Below.refl _ _)).mono ?_; rintro e wz ⟨rfl, bz⟩)
    go_ret
    exact ⟨rfl, bz⟩
  obtain ⟨r, hr, hrlt⟩ := rem_len kind 9 (by omega) (by omega)
  rw [show ((9 : Nat) : Int) = 9 from rfl] at hr
  have HR := Lib.hid hr; clear hr
  have HV := Lib.hid hv; clear hv
  by_cases h0 : t = 0
  · subst h0
    go_enter Try.func5, Try.ntmps5
    have hr := HR.out
    go_wp2_with fail
    refine (new_any 9 W).mono ?_
    rintro e w2 ⟨rfl, o2, b2⟩
    have S2 := Lib.hid (St.begin (Below.refl _ _) o2 b2)
    clear o2 b2 hr
    have cc := make_any S2.out.arena (2 + (r : Int)) ((ints_later HV.out.reads S2.out.below))
    rw [none_1 r (by omega)] at cc
    have CC := Lib.hid cc; clear cc
    go_wp2_with fail
    refine CC.out.mono ?_
    rintro e w3 ⟨rfl, m3⟩
    clear CC
    obtain ⟨F3, o3, g3⟩ := Made.out m3
    have S3 := Lib.hid (S2.out.grow g3 o3)
    clear m3 o3 g3
    have cc := cellnew_any S3.out.arena 1
    rw [none_2 r vals] at cc
    have CC := Lib.hid cc; clear cc
    go_wp2_with fail
    refine CC.out.mono ?_
    rintro e w4 ⟨rfl, m4⟩
    clear CC
    obtain ⟨F4, o4, g4⟩ := Made.out m4
    have S4 := Lib.hid (S3.out.grow g4 o4)
    clear m4 o4 g4
    have c := mayO_any S4.out.arena 1
    rw [mayO_bad (by decide) (none_no r vals 1)] at c
    have C := Lib.hid c; clear c
    go_wp2_with fail
    refine (C.out).mono ?_
    rintro e w5 ⟨rfl, b5⟩
    have S5 := Lib.hid (S4.out.later b5)
    clear b5
    clear C
    have c := mayO_any S5.out.arena 2
    rw [mayO_bad (by decide) (none_no r vals 2)] at c
    have C := Lib.hid c; clear c
    go_wp2_with fail
    refine (C.out).mono ?_
    rintro e w6 ⟨rfl, b6⟩
    have S6 := Lib.hid (S5.out.later b6)
    clear b6
    clear C
    have c := sameN1_any S6.out.arena 1 1 (by decide) (none_no r vals 1)
    have C := Lib.hid c; clear c
    go_wp2_with fail
    refine (C.out).mono ?_
    rintro e w7 ⟨rfl, b7⟩
    have S7 := Lib.hid (S6.out.later b7)
    clear b7
    clear C
    have c := sameN2_any S7.out.arena 1 (by decide) (none_no r vals 1)
    have C := Lib.hid c; clear c
    go_wp2_with fail
    refine (C.out).mono ?_
    rintro e w8 ⟨rfl, b8⟩
    have S8 := Lib.hid (S7.out.later b8)
    clear b8
    clear C
    have c := sameO_any S8.out.arena Tr.nil Tr.nil (by decide)
    rw [show decide (([] : List Pr) = []) = true from rfl] at c
    have C := Lib.hid c; clear c
    go_wp2_with fail
    refine (C.out).mono ?_
    rintro e w9 ⟨rfl, b9⟩
    have S9 := Lib.hid (S8.out.later b9)
    clear b9
    clear C
    go_wp2_with (go_at_call 18; refine (awake10_any W _ S9.out.below).mono ?_; rintro e wz ⟨rfl, bz⟩)
    go_ret
    exact ⟨rfl, bz⟩
  have q0 : (t == 0) = false := beq_eq_false_iff_ne.2 h0
  have q0b : (t != 0) = true := by rw [bne, q0]; rfl
  by_cases h1 : t = 1
  · subst h1
    go_enter Try.func5, Try.ntmps5
    have hr := HR.out
    go_wp2_with fail
    refine (new_any 9 W).mono ?_
    rintro e w2 ⟨rfl, o2, b2⟩
    have S2 := Lib.hid (St.begin (Below.refl _ _) o2 b2)
    clear o2 b2 hr
    have cc := make_any S2.out.arena (2 + (r : Int)) ((ints_later HV.out.reads S2.out.below))
    rw [none_1 r (by omega)] at cc
    have CC := Lib.hid cc; clear cc
    go_wp2_with fail
    refine CC.out.mono ?_
    rintro e w3 ⟨rfl, m3⟩
    clear CC
    obtain ⟨F3, o3, g3⟩ := Made.out m3
    have S3 := Lib.hid (S2.out.grow g3 o3)
    clear m3 o3 g3
    have cc := cellnew_any S3.out.arena 1
    rw [none_2 r vals] at cc
    have CC := Lib.hid cc; clear cc
    go_wp2_with fail
    refine CC.out.mono ?_
    rintro e w4 ⟨rfl, m4⟩
    clear CC
    obtain ⟨F4, o4, g4⟩ := Made.out m4
    have S4 := Lib.hid (S3.out.grow g4 o4)
    clear m4 o4 g4
    have c := mayO_any S4.out.arena 1
    rw [mayO_bad (by decide) (none_no r vals 1)] at c
    have C := Lib.hid c; clear c
    go_wp2_with fail
    refine (C.out).mono ?_
    rintro e w5 ⟨rfl, b5⟩
    have S5 := Lib.hid (S4.out.later b5)
    clear b5
    clear C
    have c := mayO_any S5.out.arena 2
    rw [mayO_bad (by decide) (none_no r vals 2)] at c
    have C := Lib.hid c; clear c
    go_wp2_with fail
    refine (C.out).mono ?_
    rintro e w6 ⟨rfl, b6⟩
    have S6 := Lib.hid (S5.out.later b6)
    clear b6
    clear C
    have c := sameN1_any S6.out.arena 1 1 (by decide) (none_no r vals 1)
    have C := Lib.hid c; clear c
    go_wp2_with fail
    refine (C.out).mono ?_
    rintro e w7 ⟨rfl, b7⟩
    have S7 := Lib.hid (S6.out.later b7)
    clear b7
    clear C
    have c := sameN2_any S7.out.arena 1 (by decide) (none_no r vals 1)
    have C := Lib.hid c; clear c
    go_wp2_with fail
    refine (C.out).mono ?_
    rintro e w8 ⟨rfl, b8⟩
    have S8 := Lib.hid (S7.out.later b8)
    clear b8
    clear C
    have c := sameO_any S8.out.arena Tr.nil Tr.nil (by decide)
    rw [show decide (([] : List Pr) = []) = true from rfl] at c
    have C := Lib.hid c; clear c
    go_wp2_with fail
    refine (C.out).mono ?_
    rintro e w9 ⟨rfl, b9⟩
    have S9 := Lib.hid (S8.out.later b9)
    clear b9
    clear C
    go_wp2_with (go_at_call 18; refine (awake10_any W _ S9.out.below).mono ?_; rintro e wz ⟨rfl, bz⟩)
    go_ret
    exact ⟨rfl, bz⟩
  have q1 : (t == 1) = false := beq_eq_false_iff_ne.2 h1
  have q1b : (t != 1) = true := by rw [bne, q1]; rfl
  by_cases h2 : t = 2
  · subst h2
    clear h1 q1 q1b
    go_enter Try.func5, Try.ntmps5
    have hr := HR.out
    go_wp2_with fail
    refine (new_any 9 W).mono ?_
    rintro e w2 ⟨rfl, o2, b2⟩
    have S2 := Lib.hid (St.begin (Below.refl _ _) o2 b2)
    clear o2 b2 hr
    have cc := make_any S2.out.arena (2 + (r : Int)) ((ints_later HV.out.reads S2.out.below))
    rw [none_1 r (by omega)] at cc
    have CC := Lib.hid cc; clear cc
    go_wp2_with fail
    refine CC.out.mono ?_
    rintro e w3 ⟨rfl, m3⟩
    clear CC
    obtain ⟨F3, o3, g3⟩ := Made.out m3
    have S3 := Lib.hid (S2.out.grow g3 o3)
    clear m3 o3 g3
    have cc := cellnew_any S3.out.arena 1
    rw [none_2 r vals] at cc
    have CC := Lib.hid cc; clear cc
    go_wp2_with fail
    refine CC.out.mono ?_
    rintro e w4 ⟨rfl, m4⟩
    clear CC
    obtain ⟨F4, o4, g4⟩ := Made.out m4
    have S4 := Lib.hid (S3.out.grow g4 o4)
    clear m4 o4 g4
    have c := mayO_any S4.out.arena 1
    rw [mayO_bad (by decide) (none_no r vals 1)] at c
    have C := Lib.hid c; clear c
    go_wp2_with fail
    refine (C.out).mono ?_
    rintro e w5 ⟨rfl, b5⟩
    have S5 := Lib.hid (S4.out.later b5)
    clear b5
    clear C
    have c := mayO_any S5.out.arena 2
    rw [mayO_bad (by decide) (none_no r vals 2)] at c
    have C := Lib.hid c; clear c
    go_wp2_with fail
    refine (C.out).mono ?_
    rintro e w6 ⟨rfl, b6⟩
    have S6 := Lib.hid (S5.out.later b6)
    clear b6
    clear C
    have c := sameN1_any S6.out.arena 1 1 (by decide) (none_no r vals 1)
    have C := Lib.hid c; clear c
    go_wp2_with fail
    refine (C.out).mono ?_
    rintro e w7 ⟨rfl, b7⟩
    have S7 := Lib.hid (S6.out.later b7)
    clear b7
    clear C
    have c := sameN2_any S7.out.arena 1 (by decide) (none_no r vals 1)
    have C := Lib.hid c; clear c
    go_wp2_with fail
    refine (C.out).mono ?_
    rintro e w8 ⟨rfl, b8⟩
    have S8 := Lib.hid (S7.out.later b8)
    clear b8
    clear C
    have c := sameO_any S8.out.arena Tr.nil Tr.nil (by decide)
    rw [show decide (([] : List Pr) = []) = true from rfl] at c
    have C := Lib.hid c; clear c
    go_wp2_with fail
    refine (C.out).mono ?_
    rintro e w9 ⟨rfl, b9⟩
    have S9 := Lib.hid (S8.out.later b9)
    clear b9
    clear C
    go_wp2_with (go_at_call 18; refine (awake10_any W _ S9.out.below).mono ?_; rintro e wz ⟨rfl, bz⟩)
    go_ret
    exact ⟨rfl, bz⟩
  have q2 : (t == 2) = false := beq_eq_false_iff_ne.2 h2
  have q2b : (t != 2) = true := by rw [bne, q2]; rfl
  go_enter Try.func5, Try.ntmps5
  have hr := HR.out
  go_wp2_with fail
  refine (new_any 9 W).mono ?_
  rintro e w2 ⟨rfl, o2, b2⟩
  have S2 := Lib.hid (St.begin (Below.refl _ _) o2 b2)
  clear o2 b2 hr
  have cc := make_any S2.out.arena (2 + (r : Int)) ((ints_later HV.out.reads S2.out.below))
  rw [none_1 r (by omega)] at cc
  have CC := Lib.hid cc; clear cc
  go_wp2_with fail
  refine CC.out.mono ?_
  rintro e w3 ⟨rfl, m3⟩
  clear CC
  obtain ⟨F3, o3, g3⟩ := Made.out m3
  have S3 := Lib.hid (S2.out.grow g3 o3)
  clear m3 o3 g3
  have cc := cellnew_any S3.out.arena 1
  rw [none_2 r vals] at cc
  have CC := Lib.hid cc; clear cc
  go_wp2_with fail
  refine CC.out.mono ?_
  rintro e w4 ⟨rfl, m4⟩
  clear CC
  obtain ⟨F4, o4, g4⟩ := Made.out m4
  have S4 := Lib.hid (S3.out.grow g4 o4)
  clear m4 o4 g4
  have c := mayO_any S4.out.arena 1
  rw [mayO_bad (by decide) (none_no r vals 1)] at c
  have C := Lib.hid c; clear c
  go_wp2_with fail
  refine (C.out).mono ?_
  rintro e w5 ⟨rfl, b5⟩
  have S5 := Lib.hid (S4.out.later b5)
  clear b5
  clear C
  have c := mayO_any S5.out.arena 2
  rw [mayO_bad (by decide) (none_no r vals 2)] at c
  have C := Lib.hid c; clear c
  go_wp2_with fail
  refine (C.out).mono ?_
  rintro e w6 ⟨rfl, b6⟩
  have S6 := Lib.hid (S5.out.later b6)
  clear b6
  clear C
  have c := mayO_any S6.out.arena t
  rw [mayO_bad h0 (none_no r vals t)] at c
  have C := Lib.hid c; clear c
  go_wp2_with fail
  refine (C.out).mono ?_
  rintro e w7 ⟨rfl, b7⟩
  have S7 := Lib.hid (S6.out.later b7)
  clear b7
  clear C
  have c := sameN1_any S7.out.arena t t h0 (none_no r vals t)
  have C := Lib.hid c; clear c
  go_wp2_with fail
  refine (C.out).mono ?_
  rintro e w8 ⟨rfl, b8⟩
  have S8 := Lib.hid (S7.out.later b8)
  clear b8
  clear C
  have c := sameN1_any S8.out.arena 1 1 (by decide) (none_no r vals 1)
  have C := Lib.hid c; clear c
  go_wp2_with fail
  refine (C.out).mono ?_
  rintro e w9 ⟨rfl, b9⟩
  have S9 := Lib.hid (S8.out.later b9)
  clear b9
  clear C
  have c := sameN2_any S9.out.arena 1 (by decide) (none_no r vals 1)
  have C := Lib.hid c; clear c
  go_wp2_with fail
  refine (C.out).mono ?_
  rintro e w10 ⟨rfl, b10⟩
  have S10 := Lib.hid (S9.out.later b10)
  clear b10
  clear C
  have c := sameO_any S10.out.arena Tr.nil Tr.nil (by decide)
  rw [show decide (([] : List Pr) = []) = true from rfl] at c
  have C := Lib.hid c; clear c
  go_wp2_with fail
  refine (C.out).mono ?_
  rintro e w11 ⟨rfl, b11⟩
  have S11 := Lib.hid (S10.out.later b11)
  clear b11
  clear C
  go_wp2_with (go_at_call 18; refine (awake10_any W _ S11.out.below).mono ?_; rintro e wz ⟨rfl, bz⟩)
  go_ret
  exact ⟨rfl, bz⟩

end Go.Proofs.Ytkcfkanfdbejiaa
