/- The walk of the law PartForms. -/
import Derived.Test.YtakgknoldkfekaaAwake7
import Derived.Test.YtakgknoldkfekaaRefW
import Derived.Test.YtakgknoldkfekaaSaysQ
namespace Go.Proofs.Ytakgknoldkfekaa
set_option maxRecDepth 100000
open Go.RowKit
set_option linter.unusedSimpArgs false
set_option linter.unusedVariables false

theorem Sorted.cut {l : List Pr} (hs : Sorted l) {k : Nat} {key : Int} (hk : k ≤ l.length) (hb : ∀ j (h : j < k) (h2 : j < l.length), (l[j]).1 < key) (ha : ∀ h : k < l.length, key ≤ (l[k]).1) : lo key l = l.take k ∧ hi key l = l.drop k := by
  have e : l = l.take k ++ l.drop k := (List.take_append_drop k l).symm
  have h1 : ∀ p ∈ l.take k, p.1 < key := fun p hp => by
    obtain ⟨j, hj, rfl⟩ := List.getElem_of_mem hp
    rw [List.length_take] at hj
    rw [List.getElem_take]
    exact hb j (by omega) (by omega)
  have h2 : ∀ p ∈ l.drop k, key ≤ p.1 := fun p hp => by
    obtain ⟨j, hj, rfl⟩ := List.getElem_of_mem hp
    rw [List.length_drop] at hj
    rw [List.getElem_drop]
    have hk2 : k < l.length := by omega
    have := ha hk2
    by_cases h0 : j = 0
    · subst h0; simpa using this
    · have := hs.lt (show k < k + j by omega) (by omega)
      rw [keyAt_eq (by omega), keyAt_eq (by omega)] at this
      omega
  constructor
  · unfold lo
    conv => lhs; rw [e]
    rw [List.filter_append]
    have a1 : (l.take k).filter (fun p => decide (p.1 < key)) = l.take k := lo_all h1
    have a2 : (l.drop k).filter (fun p => decide (p.1 < key)) = [] := lo_none h2
    rw [a1, a2, List.append_nil]
  · unfold hi
    conv => lhs; rw [e]
    rw [List.filter_append]
    have a1 : (l.take k).filter (fun p => decide (key ≤ p.1)) = [] := hi_none h1
    have a2 : (l.drop k).filter (fun p => decide (key ≤ p.1)) = l.drop k := hi_all h2
    rw [a1, a2, List.nil_append]

set_option maxRecDepth 100000 in
set_option maxHeartbeats 4000000 in
theorem partForms_walk (W : World) {ad : Option Addr} {c : Nat} {l : List Pr} (hl : PIn W ad c l) (hokl : okP l) (key : Int) (hkey : -9223372036854775808 ≤ key ∧ key ≤ 9223372036854775807) :
    Calls Try.prog 4 #[.slice ad l.length c, .int .i64 key] W fun e w' => e = .returned (.bool true) ∧ Below W.heap.size W w' := by
  have hp := pairs_any W hl 50 (by decide) (by decide)
  have hpl := (pairsB_len l 50 (by decide) l.length).1
  have hs := pairs_sorted l 50
  have hok := pairs_ok 50 hokl
  rw [show pairsB l 50 l.length = pairs l 50 from rfl] at hpl
  generalize pairs l 50 = q at hp hpl hs hok
  have HP := Lib.hid hp; clear hp hl
  have HQ := Lib.hid hs; clear hs
  have HOK := Lib.hid hok; clear hok hokl
  go_enter Try.func4, Try.ntmps4
  go_wp2_with fail
  refine HP.out.mono ?_
  rintro e w1 ⟨ad1, c1, rfl, p1, n1, b1⟩
  have P1 := Lib.hid p1; clear p1 n1
  have B1 := Lib.hid b1; clear b1
  go_wp2_with fail
  refine (new_any 400 w1).mono ?_
  rintro e w2 ⟨rfl, o2, b2⟩
  have S2 := Lib.hid (St.begin B1.out o2 b2)
  have K2 := Lib.hid (PK.begin P1.out b2)
  clear o2 b2
  have la := laid_any q.length w2 w1.heap.size _ _ ad1 c1 q (Nat.le_refl _) (by omega) S2.out.arena K2.out (by rw [newA_room (by omega) (by omega), newA_slots]; simp; omega)
  have LA := Lib.hid la; clear la
  go_wp2_with fail
  refine LA.out.mono ?_
  rintro e w3 ⟨t, a3, rfl, ⟨F3, o3, g3⟩, x3, l3, t3, al3⟩
  have H3 := Lib.hid (Has.mk (S2.out.grow g3 o3) t3 (x3.1.trans (newA_room (by omega) (by omega))) (by rw [l3, newA_slots]; simp) x3.2.1 : Has W w3 w1.heap.size a3 F3 t q (400))
  have K3 := Lib.hid (K2.out.grow g3)
  clear o3 g3 x3 l3 t3 al3
  have hlen64 : q.length ≤ 1000 := by omega
  go_wp2_with fail
  go_loop [9] (fun n => ∃ k : Nat, k ≤ q.length ∧ n = .int .i64 k ∧ Hid (∀ j (h : j < k) (h2 : j < q.length), (q[j]).1 < key)) (fun n => q.length - (intOf n).toNat)
  case atStart => exact ⟨0, Nat.zero_le _, rfl, Lib.hid (fun j h => absurd h (by omega))⟩
  case round =>
    obtain ⟨k, hk, rfl, HR⟩ := hrel
    by_cases hlt : k < q.length
    · obtain ⟨b, off, rfl, hcell⟩ := K3.out.cells hlt
      obtain ⟨d0, d1⟩ := hcell w3 F3 K3.out
      by_cases hkey : (q[k]).1 < key
      · have HN := Lib.hid (show ∀ j (h : j < k + 1) (h2 : j < q.length), (q[j]).1 < key from fun j h h2 => by
          by_cases hj : j < k
          · exact HR.out j hj h2
          · have : j = k := by omega
            subst this; exact hkey)
        clear hcell
        generalize (q[k]).1 = xk at d0 hkey
        generalize (q[k]).2 = xv at d1
        go_wp2_with fail
        go_round
        case rel => exact ⟨k + 1, by omega, by go_num, HN⟩
        case measure => simp [intOf]; omega
      · obtain ⟨hlo, hhi⟩ := HQ.out.cut hk HR.out (fun _ => by omega)
        generalize (q[k]).1 = xk at d0 hkey
        generalize (q[k]).2 = xv at d1
        clear hcell
        have tr3 := H3.out.tr
        have rm3 := H3.out.room
        have us3 := H3.out.used
        have S3 := Lib.hid H3.out.st
        have hgq := hgt_le q
        have hkl : k ≤ q.length := by omega
        obtain ⟨a4, x, y, e4, tx, ty, x4, f4, l4⟩ := partO_room tr3 HQ.out (by omega) S3.out.fits key (by omega)
        rw [hlo] at tx
        rw [hhi] at ty
        have tr4 := tr3.ext x4
        have r4 := x4.1
        obtain ⟨A2, c2, n2, hn2, hcut2, hPK2, hsays2⟩ := rest_from (ad := some ⟨b, off, none⟩) (c := c1) k hkl (by omega)
        have hcut1 := cutP_to (some ⟨b, off, none⟩) q.length c1 k hkl K3.out.pin.room
        have hd : ((a4.slots.length : Int)) - (a3.slots.length : Int) ≤ (hgt q : Int) := by omega
        have hu3 : (a3.slots.length : Int) ≤ 1000 := by omega
        have hu4 : (a4.slots.length : Int) ≤ 1000 := by omega
        have HS2 := Lib.hid hsays2
        clear hsays2 hPK2 hn2 hlo hhi
        have c := used_any S3.out.arena
        rw [show usedO (some a3) = (a3.slots.length : Int) from rfl] at c
        have C := Lib.hid c; clear c
        go_wp2_with fail
        refine (C.out).mono ?_
        rintro e w' ⟨rfl, rfl⟩
        clear C
        have cc := partO_any S3.out.arena t key
        rw [e4] at cc
        have CC := Lib.hid cc; clear cc
        go_wp2_with fail
        refine CC.out.mono ?_
        rintro e w5 ⟨rfl, m5⟩
        clear CC
        clear d0 d1 hkey
        obtain ⟨F5, o5, g5⟩ := Made.out m5
        have S5 := Lib.hid (S3.out.grow g5 o5)
        have K5 := Lib.hid (K3.out.grow g5)
        clear m5 o5 g5
        have HS := Lib.hid (says_take k hkl (by omega) S5.out.arena K5.out tx)
        go_wp2_with fail
        refine (HS.out).mono ?_
        rintro e w6 ⟨rfl, b6⟩
        have S6 := Lib.hid (S5.out.later b6)
        have K6 := Lib.hid (K5.out.later b6)
        clear b6
        clear HS
        have HS := Lib.hid (HS2.out _ _ _ _ y S6.out.arena K6.out ty)
        go_wp2_with fail
        refine (HS.out).mono ?_
        rintro e w7 ⟨rfl, b7⟩
        have S7 := Lib.hid (S6.out.later b7)
        have K7 := Lib.hid (K6.out.later b7)
        clear b7
        clear HS HS2
        have c := used_any S7.out.arena
        rw [show usedO (some a4) = (a4.slots.length : Int) from rfl] at c
        have C := Lib.hid c; clear c
        go_wp2_with fail
        refine (C.out).mono ?_
        rintro e w' ⟨rfl, rfl⟩
        clear C hcut1 hcut2
        have HH := Lib.hid (high_any _ _ _ c1 q (Nat.le_refl _) (by omega) K7.out.pin)
        go_wp2_with fail
        refine (HH.out).mono ?_
        rintro e w9 ⟨rfl, b9⟩
        have S9 := Lib.hid (S7.out.later b9)
        have K9 := Lib.hid (K7.out.later b9)
        clear b9
        clear HH
        have n1 : decide ((hgt q : Int) < (a4.slots.length : Int) - (q.length : Int)) = false := decide_eq_false (by omega)
        have n2 : ¬ ((hgt q : Int) < (a4.slots.length : Int) - (q.length : Int)) := by omega
        have em := midO_tr tr4 (show q.length ≤ 1000000 by omega)
        by_cases h2 : q.length < 2
        · rw [dif_pos h2] at em
          have eh := halfO_few tr4 (show q.length ≤ 1000000 by omega) h2
          have i2 : (q.length : Int) < 2 := by omega
          clear f4 l4 x4 r4 rm3 us3 hgq
          have c := middle_any S9.out.arena t
          rw [em] at c
          have C := Lib.hid c; clear c em
          go_wp2_with fail
          refine (C.out).mono ?_
          rintro e w10 ⟨rfl, b10⟩
          clear n1 n2
          have S10 := Lib.hid (S9.out.later b10)
          have K10 := Lib.hid (K9.out.later b10)
          clear b10
          clear C
          have cc := halfO_any S10.out.arena t
          rw [eh] at cc
          have CC := Lib.hid cc; clear cc
          go_wp2_with fail
          refine CC.out.mono ?_
          rintro e w11 ⟨rfl, m11⟩
          clear CC
          obtain ⟨F11, o11, g11⟩ := Made.out m11
          have S11 := Lib.hid (S10.out.grow g11 o11)
          have K11 := Lib.hid (K10.out.grow g11)
          clear m11 o11 g11
          go_wp2_with (go_at_call 21; refine (awake7_any W _ S11.out.below).mono ?_; rintro e wz ⟨rfl, bz⟩)
          go_ret
          exact ⟨rfl, bz⟩
        · rw [dif_neg h2] at em
          have hg4 : (a4.slots.length : Int) + hgt q ≤ a4.room := by omega
          obtain ⟨a5, u, v, e5, tu, tv, x5, f5, l5⟩ := halfO_room tr4 HQ.out (by omega) f4 (by omega) hg4
          have i2 : ¬ ((q.length : Int) < 2) := by omega
          have tr5 := tr4.ext x5
          obtain ⟨mm, hmm⟩ : ∃ mm, mm = q.length / 2 := ⟨_, rfl⟩
          have hml : mm < q.length := by omega
          have hq2 : ((q.length : Int) / 2) = (mm : Int) := by omega
          simp only [← hmm] at em e5 tu tv
          obtain ⟨kk, hkk⟩ : ∃ kk, (q[mm]).1 = kk := ⟨_, rfl⟩
          rw [hkk] at em e5
          have Hk := Lib.hid hkk; clear hkk
          obtain ⟨A3, c3, n3, hn3, hcut3, hPK3, hsays3⟩ := rest_from (ad := some ⟨b, off, none⟩) (c := c1) (l := q) mm (by omega) (by omega)
          have hcut4 := cutP_to (some ⟨b, off, none⟩) q.length c1 mm (by omega) K3.out.pin.room
          have HS3 := Lib.hid hsays3
          obtain ⟨bb, oo, hbo, hcell⟩ := K3.out.cells hml
          have HCE := Lib.hid hcell
          (have hb2 : b = bb ∧ off = oo := by simpa using hbo); (obtain ⟨rfl, rfl⟩ := hb2); clear hbo
          have HQ2 := Lib.hid hq2
          clear hsays3 hPK3 hn3 f4 l4 x4 r4 rm3 us3 hgq hg4 f5 l5 x5 hcell hq2 hmm
          have c := middle_any S9.out.arena t
          rw [em] at c
          have C := Lib.hid c; clear c em
          go_wp2_with fail
          refine (C.out).mono ?_
          rintro e w10 ⟨rfl, b10⟩
          clear n1 n2
          have S10 := Lib.hid (S9.out.later b10)
          have K10 := Lib.hid (K9.out.later b10)
          clear b10
          clear C
          have cc := halfO_any S10.out.arena t
          rw [e5] at cc
          have CC := Lib.hid cc; clear cc
          go_wp2_with fail
          refine CC.out.mono ?_
          rintro e w11 ⟨rfl, m11⟩
          clear CC
          obtain ⟨F11, o11, g11⟩ := Made.out m11
          have S11 := Lib.hid (S10.out.grow g11 o11)
          have K11 := Lib.hid (K10.out.grow g11)
          clear m11 o11 g11
          obtain ⟨d0, d1⟩ := HCE.out _ _ K11.out
          rw [Hk.out] at d0
          generalize (q[mm]).2 = kvv at d1
          have q1 := beq_self_eq_true kk
          have hq2 := HQ2.out
          have HS := Lib.hid (says_take mm (by omega) (by omega) S11.out.arena K11.out tu)
          go_wp2_with fail
          refine (HS.out).mono ?_
          rintro e w12 ⟨rfl, b12⟩
          have S12 := Lib.hid (S11.out.later b12)
          have K12 := Lib.hid (K11.out.later b12)
          clear b12
          clear HS d0 d1
          have HS := Lib.hid (HS3.out _ _ _ _ v S12.out.arena K12.out tv)
          go_wp2_with fail
          refine (HS.out).mono ?_
          rintro e w13 ⟨rfl, b13⟩
          have S13 := Lib.hid (S12.out.later b13)
          have K13 := Lib.hid (K12.out.later b13)
          clear b13
          clear HS HS3
          have HS := Lib.hid (says_any _ _ _ _ _ t _ c1 q (Nat.le_refl _) (by omega) S13.out.arena K13.out tr5)
          go_wp2_with fail
          refine (HS.out).mono ?_
          rintro e w14 ⟨rfl, b14⟩
          have S14 := Lib.hid (S13.out.later b14)
          have K14 := Lib.hid (K13.out.later b14)
          clear b14
          clear HS
          go_wp2_with (go_at_call 21; refine (awake7_any W _ S14.out.below).mono ?_; rintro e wz ⟨rfl, bz⟩)
          go_ret
          exact ⟨rfl, bz⟩
    · have hkl0 : k = q.length := by omega
      subst hkl0
      obtain ⟨hlo, hhi⟩ := HQ.out.cut (Nat.le_refl _) HR.out (fun h => absurd h (by omega))
      have tr3 := H3.out.tr
      have rm3 := H3.out.room
      have us3 := H3.out.used
      have S3 := Lib.hid H3.out.st
      have hgq := hgt_le q
      have hkl : q.length ≤ q.length := by omega
      obtain ⟨a4, x, y, e4, tx, ty, x4, f4, l4⟩ := partO_room tr3 HQ.out (by omega) S3.out.fits key (by omega)
      rw [hlo] at tx
      rw [hhi] at ty
      have tr4 := tr3.ext x4
      have r4 := x4.1
      obtain ⟨A2, c2, n2, hn2, hcut2, hPK2, hsays2⟩ := rest_from (ad := ad1) (c := c1) q.length hkl (by omega)
      have hcut1 := cutP_to (ad1) q.length c1 q.length hkl K3.out.pin.room
      have hd : ((a4.slots.length : Int)) - (a3.slots.length : Int) ≤ (hgt q : Int) := by omega
      have hu3 : (a3.slots.length : Int) ≤ 1000 := by omega
      have hu4 : (a4.slots.length : Int) ≤ 1000 := by omega
      have HS2 := Lib.hid hsays2
      clear hsays2 hPK2 hn2 hlo hhi
      have c := used_any S3.out.arena
      rw [show usedO (some a3) = (a3.slots.length : Int) from rfl] at c
      have C := Lib.hid c; clear c
      go_wp2_with fail
      refine (C.out).mono ?_
      rintro e w' ⟨rfl, rfl⟩
      clear C
      have cc := partO_any S3.out.arena t key
      rw [e4] at cc
      have CC := Lib.hid cc; clear cc
      go_wp2_with fail
      refine CC.out.mono ?_
      rintro e w5 ⟨rfl, m5⟩
      clear CC
      obtain ⟨F5, o5, g5⟩ := Made.out m5
      have S5 := Lib.hid (S3.out.grow g5 o5)
      have K5 := Lib.hid (K3.out.grow g5)
      clear m5 o5 g5
      have HS := Lib.hid (says_take q.length hkl (by omega) S5.out.arena K5.out tx)
      go_wp2_with fail
      refine (HS.out).mono ?_
      rintro e w6 ⟨rfl, b6⟩
      have S6 := Lib.hid (S5.out.later b6)
      have K6 := Lib.hid (K5.out.later b6)
      clear b6
      clear HS
      have HS := Lib.hid (HS2.out _ _ _ _ y S6.out.arena K6.out ty)
      go_wp2_with fail
      refine (HS.out).mono ?_
      rintro e w7 ⟨rfl, b7⟩
      have S7 := Lib.hid (S6.out.later b7)
      have K7 := Lib.hid (K6.out.later b7)
      clear b7
      clear HS HS2
      have c := used_any S7.out.arena
      rw [show usedO (some a4) = (a4.slots.length : Int) from rfl] at c
      have C := Lib.hid c; clear c
      go_wp2_with fail
      refine (C.out).mono ?_
      rintro e w' ⟨rfl, rfl⟩
      clear C hcut1 hcut2
      have HH := Lib.hid (high_any _ _ _ c1 q (Nat.le_refl _) (by omega) K7.out.pin)
      go_wp2_with fail
      refine (HH.out).mono ?_
      rintro e w9 ⟨rfl, b9⟩
      have S9 := Lib.hid (S7.out.later b9)
      have K9 := Lib.hid (K7.out.later b9)
      clear b9
      clear HH
      have n1 : decide ((hgt q : Int) < (a4.slots.length : Int) - (q.length : Int)) = false := decide_eq_false (by omega)
      have n2 : ¬ ((hgt q : Int) < (a4.slots.length : Int) - (q.length : Int)) := by omega
      have em := midO_tr tr4 (show q.length ≤ 1000000 by omega)
      by_cases h2 : q.length < 2
      · rw [dif_pos h2] at em
        have eh := halfO_few tr4 (show q.length ≤ 1000000 by omega) h2
        have i2 : (q.length : Int) < 2 := by omega
        clear f4 l4 x4 r4 rm3 us3 hgq
        have c := middle_any S9.out.arena t
        rw [em] at c
        have C := Lib.hid c; clear c em
        go_wp2_with fail
        refine (C.out).mono ?_
        rintro e w10 ⟨rfl, b10⟩
        clear n1 n2
        have S10 := Lib.hid (S9.out.later b10)
        have K10 := Lib.hid (K9.out.later b10)
        clear b10
        clear C
        have cc := halfO_any S10.out.arena t
        rw [eh] at cc
        have CC := Lib.hid cc; clear cc
        go_wp2_with fail
        refine CC.out.mono ?_
        rintro e w11 ⟨rfl, m11⟩
        clear CC
        obtain ⟨F11, o11, g11⟩ := Made.out m11
        have S11 := Lib.hid (S10.out.grow g11 o11)
        have K11 := Lib.hid (K10.out.grow g11)
        clear m11 o11 g11
        go_wp2_with (go_at_call 21; refine (awake7_any W _ S11.out.below).mono ?_; rintro e wz ⟨rfl, bz⟩)
        go_ret
        exact ⟨rfl, bz⟩
      · rw [dif_neg h2] at em
        have hg4 : (a4.slots.length : Int) + hgt q ≤ a4.room := by omega
        obtain ⟨a5, u, v, e5, tu, tv, x5, f5, l5⟩ := halfO_room tr4 HQ.out (by omega) f4 (by omega) hg4
        have i2 : ¬ ((q.length : Int) < 2) := by omega
        have tr5 := tr4.ext x5
        obtain ⟨mm, hmm⟩ : ∃ mm, mm = q.length / 2 := ⟨_, rfl⟩
        have hml : mm < q.length := by omega
        have hq2 : ((q.length : Int) / 2) = (mm : Int) := by omega
        simp only [← hmm] at em e5 tu tv
        obtain ⟨kk, hkk⟩ : ∃ kk, (q[mm]).1 = kk := ⟨_, rfl⟩
        rw [hkk] at em e5
        have Hq.length := Lib.hid hkk; clear hkk
        obtain ⟨A3, c3, n3, hn3, hcut3, hPK3, hsays3⟩ := rest_from (ad := ad1) (c := c1) (l := q) mm (by omega) (by omega)
        have hcut4 := cutP_to (ad1) q.length c1 mm (by omega) K3.out.pin.room
        have HS3 := Lib.hid hsays3
        obtain ⟨bb, oo, hbo, hcell⟩ := K3.out.cells hml
        have HCE := Lib.hid hcell
        subst hbo
        have HQ2 := Lib.hid hq2
        clear hsays3 hPK3 hn3 f4 l4 x4 r4 rm3 us3 hgq hg4 f5 l5 x5 hcell hq2 hmm
        have c := middle_any S9.out.arena t
        rw [em] at c
        have C := Lib.hid c; clear c em
        go_wp2_with fail
        refine (C.out).mono ?_
        rintro e w10 ⟨rfl, b10⟩
        clear n1 n2
        have S10 := Lib.hid (S9.out.later b10)
        have K10 := Lib.hid (K9.out.later b10)
        clear b10
        clear C
        have cc := halfO_any S10.out.arena t
        rw [e5] at cc
        have CC := Lib.hid cc; clear cc
        go_wp2_with fail
        refine CC.out.mono ?_
        rintro e w11 ⟨rfl, m11⟩
        clear CC
        obtain ⟨F11, o11, g11⟩ := Made.out m11
        have S11 := Lib.hid (S10.out.grow g11 o11)
        have K11 := Lib.hid (K10.out.grow g11)
        clear m11 o11 g11
        obtain ⟨d0, d1⟩ := HCE.out _ _ K11.out
        rw [Hq.length.out] at d0
        generalize (q[mm]).2 = kvv at d1
        have q1 := beq_self_eq_true kk
        have hq2 := HQ2.out
        have HS := Lib.hid (says_take mm (by omega) (by omega) S11.out.arena K11.out tu)
        go_wp2_with fail
        refine (HS.out).mono ?_
        rintro e w12 ⟨rfl, b12⟩
        have S12 := Lib.hid (S11.out.later b12)
        have K12 := Lib.hid (K11.out.later b12)
        clear b12
        clear HS d0 d1
        have HS := Lib.hid (HS3.out _ _ _ _ v S12.out.arena K12.out tv)
        go_wp2_with fail
        refine (HS.out).mono ?_
        rintro e w13 ⟨rfl, b13⟩
        have S13 := Lib.hid (S12.out.later b13)
        have K13 := Lib.hid (K12.out.later b13)
        clear b13
        clear HS HS3
        have HS := Lib.hid (says_any _ _ _ _ _ t _ c1 q (Nat.le_refl _) (by omega) S13.out.arena K13.out tr5)
        go_wp2_with fail
        refine (HS.out).mono ?_
        rintro e w14 ⟨rfl, b14⟩
        have S14 := Lib.hid (S13.out.later b14)
        have K14 := Lib.hid (K13.out.later b14)
        clear b14
        clear HS
        go_wp2_with (go_at_call 21; refine (awake7_any W _ S14.out.below).mono ?_; rintro e wz ⟨rfl, bz⟩)
        go_ret
        exact ⟨rfl, bz⟩

end Go.Proofs.Ytakgknoldkfekaa
