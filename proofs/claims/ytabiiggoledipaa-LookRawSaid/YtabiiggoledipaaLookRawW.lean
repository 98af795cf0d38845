/- The walk of the law LookRaw. -/
import Derived.Test.YtabiiggoledipaaAwake4
import Derived.Test.YtabiiggoledipaaLookQ
import Derived.Test.YtabiiggoledipaaOpen3
import Derived.Test.YtabiiggoledipaaNilW
namespace Go.Proofs.Ytabiiggoledipaa
set_option maxRecDepth 100000
open Go.RowKit
set_option linter.unusedSimpArgs false
set_option linter.unusedVariables false

set_option maxRecDepth 100000 in
set_option maxHeartbeats 4000000 in
theorem lookRaw_walk (W : World) {ad : Option Addr} {c : Nat} {l : List (List Int)} (hl : RowsIn W ad c l) (t : Int) (ht : -9223372036854775808 ≤ t ∧ t ≤ 9223372036854775807) (key : Int) (hkey : -9223372036854775808 ≤ key ∧ key ≤ 9223372036854775807) (i : Int) (hi : -9223372036854775808 ≤ i ∧ i ≤ 9223372036854775807) :
    Calls Try.prog 12 #[.slice ad l.length c, .int .i64 t, .int .i64 key, .int .i64 i] W fun e w' => e = .returned (.bool true) ∧ Below W.heap.size W w' := by
  have hlen : l.length ≤ 9223372036854775807 := by have := hl.room; have := hl.most; unfold maxLen at this; omega
  have HL := Lib.hid hl; clear hl
  by_cases hbig : l.length > 40
  · have hbi : (40 : Int) < (l.length : Int) := by omega
    go_enter Try.func12, Try.ntmps12
    go_wp2_with (go_at_call 26; refine (awake4_any W _ (Below.refl _ _)).mono ?_; rintro e wz ⟨rfl, bz⟩)
    go_ret
    exact ⟨rfl, bz⟩
  · have hbi : ¬ ((40 : Int) < (l.length : Int)) := by omega
    have hsm : l.length ≤ 40 := by omega
    have hnewA : newA 50 = rowsA 50 (l.take 0) := rfl
    go_enter Try.func12, Try.ntmps12
    go_wp2_with fail
    refine (new_any 50 W).mono ?_
    rintro e w2 ⟨rfl, o2, b2⟩
    rw [hnewA] at o2
    have S2 := Lib.hid (St.begin (Below.refl _ _) o2 b2)
    have O2 := Lib.hid o2
    clear o2 b2 hnewA hbig
    go_wp2_with fail
    go_loopw [27] (fun i wr => ∃ k : Nat, k ≤ l.length ∧ i = .int .i64 k ∧ Hid (∃ F', OAt wr (some ⟨W.heap.size, 0, none⟩) (some (rowsA 50 (l.take k))) F' ∧ Grow (fun b => b = W.heap.size) w2 F' wr)) (fun i _ => l.length - (intOf i).toNat)
    case atStart => exact ⟨0, Nat.zero_le _, rfl, Lib.hid ⟨_, O2.out, Grow.refl _ _⟩⟩
    case round =>
      obtain ⟨k, hk, rfl, HR⟩ := hrel
      obtain ⟨F', o1, g1⟩ := HR.out
      have S3 := Lib.hid (S2.out.grow g1 o1)
      have G3 := Lib.hid g1
      clear HR o1 g1
      by_cases hlt : k < l.length
      · obtain ⟨b, off, a, cc, rfl, hbl, d0, ha, hi⟩ := HL.out.row S3.out.below hlt
        have hbl2 : b < wr.heap.size := World.block_lt_of_cell? wr _ d0
        obtain ⟨r, hr⟩ : ∃ r, l[k] = r := ⟨_, rfl⟩
        rw [hr] at d0 hi
        have htk : l.take (k + 1) = l.take k ++ [r] := by rw [List.take_succ_eq_append_getElem hlt, hr]
        have HTK := Lib.hid htk; clear htk
        have hrl : r.length ≤ 9223372036854775807 := by rw [hr] at ha; have := ha.room; have := ha.most; unfold maxLen at this; omega
        clear ha hr
        by_cases h12 : r.length > 12
        · have h12i : (12 : Int) < (r.length : Int) := by omega
          clear h12
          go_wp2_with (go_at_call 26; refine (awake4_any W _ S3.out.below).mono ?_; rintro e wz ⟨rfl, bz⟩)
          go_ret
          exact ⟨rfl, bz⟩
        · have h12i : ¬ ((12 : Int) < (r.length : Int)) := by omega
          have hc := make_any S3.out.arena 1 hi
          rw [rowsA_make (by rw [List.length_take]; omega) (by omega), ← HTK.out] at hc
          have HC := Lib.hid hc; clear hc hi h12
          go_wp2_with fail
          refine HC.out.mono ?_
          rintro e w3 ⟨rfl, m3⟩
          obtain ⟨F3, o3, g3⟩ := Made.out m3
          have HN := Lib.hid (⟨F3, o3, G3.out.trans g3⟩ : ∃ F', OAt w3 (some ⟨W.heap.size, 0, none⟩) (some (rowsA 50 (l.take (k + 1)))) F' ∧ Grow (fun b => b = W.heap.size) w2 F' w3)
          clear m3 o3 g3 d0
          go_wp2_with fail
          go_roundw
          case rel => exact ⟨k + 1, by omega, by go_num, HN⟩
          case measure => simp [intOf]; omega
      · have hkl : k = l.length := by omega
        subst hkl
        rw [List.take_length] at S3
        clear G3
        have hus := rowsA_len 50 l
        have nz : ∀ x : Int, isN none x = false := fun _ => rfl
        have c := lookGet_any S3.out.arena (fuel t) t key (lt_fuel t)
        have C := Lib.hid c; clear c
        go_wp2_with fail
        refine (C.out).mono ?_
        rintro e w4 ⟨rfl, b4⟩
        have S4 := Lib.hid (S3.out.later b4)
        clear b4
        clear C
        have c := lookMin_any S4.out.arena (fuel t) t (lt_fuel t)
        have C := Lib.hid c; clear c
        go_wp2_with fail
        refine (C.out).mono ?_
        rintro e w5 ⟨rfl, b5⟩
        have S5 := Lib.hid (S4.out.later b5)
        clear b5
        clear C
        have c := lookMax_any S5.out.arena (fuel t) t (lt_fuel t)
        have C := Lib.hid c; clear c
        go_wp2_with fail
        refine (C.out).mono ?_
        rintro e w6 ⟨rfl, b6⟩
        have S6 := Lib.hid (S5.out.later b6)
        clear b6
        clear C
        have c := lookNth_any S6.out.arena (fuel t) t i (lt_fuel t)
        have C := Lib.hid c; clear c
        go_wp2_with fail
        refine (C.out).mono ?_
        rintro e w7 ⟨rfl, b7⟩
        have S7 := Lib.hid (S6.out.later b7)
        clear b7
        clear C
        have c := lookBelow_any S7.out.arena (fuel t) t key (lt_fuel t)
        have C := Lib.hid c; clear c
        go_wp2_with fail
        refine (C.out).mono ?_
        rintro e w8 ⟨rfl, b8⟩
        have S8 := Lib.hid (S7.out.later b8)
        clear b8
        clear C
        have c := lookGet_any (OAt.none_ w8) (fuel t) t key (lt_fuel t)
        rw [lgF_no (nz t)] at c
        have C := Lib.hid c; clear c
        go_wp2_with fail
        refine (C.out).mono ?_
        rintro e w9 ⟨rfl, b9⟩
        have S9 := Lib.hid (S8.out.later b9)
        clear b9
        clear C
        have hm0 : minF (fuel 0) (some (rowsA 50 l)) 0 = (0, 0, false) := minF_nil .nil _ (lt_fuel 0)
        have c := lookMin_any S9.out.arena (fuel 0) 0 (lt_fuel 0)
        rw [hm0] at c
        have C := Lib.hid c; clear c
        go_wp2_with fail
        refine (C.out).mono ?_
        rintro e w10 ⟨rfl, b10⟩
        have S10 := Lib.hid (S9.out.later b10)
        clear b10
        clear C
        have S11 := Lib.hid (S10.out.alloc (.cells #[.int .i64 0, .int .i64 0] 25))
        have A11 := Lib.hid (S10.out.new (.cells #[.int .i64 0, .int .i64 0] 25))
        have hM0 : maxF (fuel t) none t = (0, 0, false) := by rw [maxF_stop (by rw [nz]; simp)]; rfl
        have c := lookMax_any (OAt.none_ (w10.alloc (.cells #[.int .i64 0, .int .i64 0] 25))) (fuel t) t (lt_fuel t)
        rw [hM0] at c
        have C := Lib.hid c; clear c
        go_wp2_with fail
        refine (C.out).mono ?_
        rintro e w12 ⟨rfl, b12⟩
        have S12 := Lib.hid (S11.out.later b12)
        have A12 := Lib.hid (A11.out.below b12)
        clear b12
        clear C
        have S13 := Lib.hid (S12.out.alloc (.cells #[.int .i64 0, .int .i64 0] 25))
        have A13 := Lib.hid (A12.out.alloc (.cells #[.int .i64 0, .int .i64 0] 25))
        have B13 := Lib.hid (S12.out.new (.cells #[.int .i64 0, .int .i64 0] 25))
        have hn0 : nthO (fuel ((l.length : Int) + 1)) (some (rowsA 50 l)) ((l.length : Int) + 1) 0 = (0, 0, false) := by
          unfold nthO
          rw [getN_no (isN_out (.inl (by rw [hus]; omega))), if_pos (.inr (Int.le_refl _))]
        have c := lookNth_any S13.out.arena (fuel ((l.length : Int) + 1)) ((l.length : Int) + 1) 0 (lt_fuel _)
        rw [hn0] at c
        have C := Lib.hid c; clear c
        go_wp2_with fail
        refine (C.out).mono ?_
        rintro e w14 ⟨rfl, b14⟩
        have S14 := Lib.hid (S13.out.later b14)
        have A14 := Lib.hid (A13.out.below b14)
        have B14 := Lib.hid (B13.out.below b14)
        clear b14
        clear C
        have S15 := Lib.hid (S14.out.alloc (.cells #[.int .i64 0, .int .i64 0] 25))
        have A15 := Lib.hid (A14.out.alloc (.cells #[.int .i64 0, .int .i64 0] 25))
        have B15 := Lib.hid (B14.out.alloc (.cells #[.int .i64 0, .int .i64 0] 25))
        have D15 := Lib.hid (S14.out.new (.cells #[.int .i64 0, .int .i64 0] 25))
        clear hm0 hM0 hn0
        have c := lsize_any (OAt.none_ (w14.alloc (.cells #[.int .i64 0, .int .i64 0] 25))) t
        rw [show (getN none t).size = 0 from rfl] at c
        have C := Lib.hid c; clear c
        go_wp2_with fail
        refine (C.out).mono ?_
        rintro e w16 ⟨rfl, b16⟩
        have S16 := Lib.hid (S15.out.later b16)
        have A16 := Lib.hid (A15.out.below b16)
        have B16 := Lib.hid (B15.out.below b16)
        have D16 := Lib.hid (D15.out.below b16)
        clear b16
        clear C
        have c := lhigh_any S16.out.arena 0
        rw [show (getN (some (rowsA 50 l)) 0).high = 0 by rw [getN_no (isN_zero _)]] at c
        have C := Lib.hid c; clear c
        go_wp2_with fail
        refine (C.out).mono ?_
        rintro e w17 ⟨rfl, b17⟩
        have S17 := Lib.hid (S16.out.later b17)
        have A17 := Lib.hid (A16.out.below b17)
        have B17 := Lib.hid (B16.out.below b17)
        have D17 := Lib.hid (D16.out.below b17)
        clear b17
        clear C
        have c := lookBelow_any (OAt.none_ w17) (fuel t) t key (lt_fuel t)
        rw [lbF_no (nz t)] at c
        have C := Lib.hid c; clear c
        go_wp2_with fail
        refine (C.out).mono ?_
        rintro e w18 ⟨rfl, b18⟩
        have S18 := Lib.hid (S17.out.later b18)
        have A18 := Lib.hid (A17.out.below b18)
        have B18 := Lib.hid (B17.out.below b18)
        have D18 := Lib.hid (D17.out.below b18)
        clear b18
        clear C
        have ql := beq_self_eq_true (l.length : Int)
        have c := used_any S18.out.arena
        rw [show usedO (some (rowsA 50 l)) = ((rowsA 50 l).slots.length : Int) from rfl, hus] at c
        have C := Lib.hid c; clear c
        go_wp2_with fail
        refine (C.out).mono ?_
        rintro e w' ⟨rfl, rfl⟩
        clear C
        have c := steps_any S18.out.arena
        rw [show stepsO (some (rowsA 50 l)) = 0 from rfl] at c
        have C := Lib.hid c; clear c
        go_wp2_with fail
        refine (C.out).mono ?_
        rintro e w' ⟨rfl, rfl⟩
        clear C
        clear hus nz
        go_wp2_with (go_at_call 26; refine (awake4_any W _ S18.out.below).mono ?_; rintro e wz ⟨rfl, bz⟩)
        go_ret
        exact ⟨rfl, bz⟩

end Go.Proofs.Ytabiiggoledipaa
