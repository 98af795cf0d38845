/- The walk of the law CutRaw. -/
import Derived.Test.YtakgknoldkfekaaAwake6
import Derived.Test.YtakgknoldkfekaaOpen3
import Derived.Test.YtakgknoldkfekaaExtP
namespace Go.Proofs.Ytakgknoldkfekaa
set_option maxRecDepth 100000
open Go.RowKit
set_option linter.unusedSimpArgs false
set_option linter.unusedVariables false

set_option maxRecDepth 100000 in
set_option maxHeartbeats 4000000 in
theorem cutRaw_walk (W : World) {ad : Option Addr} {c : Nat} {l : List (List Int)} (hl : RowsIn W ad c l) (t : Int) (ht : -9223372036854775808 ≤ t ∧ t ≤ 9223372036854775807) (key : Int) (hkey : -9223372036854775808 ≤ key ∧ key ≤ 9223372036854775807) :
    Calls Try.prog 7 #[.slice ad l.length c, .int .i64 t, .int .i64 key] W fun e w' => e = .returned (.bool true) ∧ Below W.heap.size W w' := by
  have hlen : l.length ≤ 9223372036854775807 := by have := hl.room; have := hl.most; unfold maxLen at this; omega
  have HL := Lib.hid hl; clear hl
  by_cases hbig : l.length > 15
  · have hbi : (15 : Int) < (l.length : Int) := by omega
    go_enter Try.func7, Try.ntmps7
    go_wp2_with (go_at_call 26; refine (awake6_any W _ (Below.refl _ _)).mono ?_; rintro e wz ⟨rfl, bz⟩)
    go_ret
    exact ⟨rfl, bz⟩
  · have hbi : ¬ ((15 : Int) < (l.length : Int)) := by omega
    have hsm : l.length ≤ 15 := by omega
    have hnewA : newA 200 = rowsA 200 (l.take 0) := rfl
    go_enter Try.func7, Try.ntmps7
    go_wp2_with fail
    refine (new_any 200 W).mono ?_
    rintro e w2 ⟨rfl, o2, b2⟩
    rw [hnewA] at o2
    have S2 := Lib.hid (St.begin (Below.refl _ _) o2 b2)
    have O2 := Lib.hid o2
    clear o2 b2 hnewA hbig
    go_wp2_with fail
    go_loopw [21] (fun i wr => ∃ k : Nat, k ≤ l.length ∧ i = .int .i64 k ∧ Hid (∃ F', OAt wr (some ⟨W.heap.size, 0, none⟩) (some (rowsA 200 (l.take k))) F' ∧ Grow (fun b => b = W.heap.size) w2 F' wr)) (fun i _ => l.length - (intOf i).toNat)
    case atStart => exact ⟨0, Nat.zero_le _, rfl, Lib.hid ⟨_, O2.out, Grow.refl _ _⟩⟩
    case round =>
      obtain ⟨k, hk, rfl, HR⟩ := hrel
      obtain ⟨F', o1, g1⟩ := HR.out
      have S3 := Lib.hid (S2.out.grow g1 o1)
      have G3 := Lib.hid g1
      clear HR o1 g1
      by_cases hlt : k < l.length
      · obtain ⟨b, off, a, cc, rfl, hbl, d0, ha, hi⟩ := HL.out.row S3.out.below hlt
        have hbl2 : b < wr.heap.size := World.block_lt_of_cell? wr _ d0
        obtain ⟨r, hr⟩ : ∃ r, l[k] = r := ⟨_, rfl⟩
        rw [hr] at d0 hi
        have htk : l.take (k + 1) = l.take k ++ [r] := by rw [List.take_succ_eq_append_getElem hlt, hr]
        have HTK := Lib.hid htk; clear htk
        have hrl : r.length ≤ 9223372036854775807 := by rw [hr] at ha; have := ha.room; have := ha.most; unfold maxLen at this; omega
        clear ha hr
        by_cases h12 : r.length > 12
        · have h12i : (12 : Int) < (r.length : Int) := by omega
          clear h12
          go_wp2_with (go_at_call 26; refine (awake6_any W _ S3.out.below).mono ?_; rintro e wz ⟨rfl, bz⟩)
          go_ret
          exact ⟨rfl, bz⟩
        · have h12i : ¬ ((12 : Int) < (r.length : Int)) := by omega
          have hc := make_any S3.out.arena 1 hi
          rw [rowsA_make (by rw [List.length_take]; omega) (by omega), ← HTK.out] at hc
          have HC := Lib.hid hc; clear hc hi h12
          go_wp2_with fail
          refine HC.out.mono ?_
          rintro e w3 ⟨rfl, m3⟩
          obtain ⟨F3, o3, g3⟩ := Made.out m3
          have HN := Lib.hid (⟨F3, o3, G3.out.trans g3⟩ : ∃ F', OAt w3 (some ⟨W.heap.size, 0, none⟩) (some (rowsA 200 (l.take (k + 1)))) F' ∧ Grow (fun b => b = W.heap.size) w2 F' w3)
          clear m3 o3 g3 d0
          go_wp2_with fail
          go_roundw
          case rel => exact ⟨k + 1, by omega, by go_num, HN⟩
          case measure => simp [intOf]; omega
      · have hkl : k = l.length := by omega
        subst hkl
        rw [List.take_length] at S3
        clear G3
        obtain ⟨a', ea, xa⟩ := cutO_later (rowsA 200 l) t key
        have hc := cutO_any S3.out.arena t key
        rw [ea] at hc
        generalize (cutO (some (rowsA 200 l)) t key).1 = r1 at hc
        generalize (cutO (some (rowsA 200 l)) t key).2.1 = r2 at hc
        generalize (cutO (some (rowsA 200 l)) t key).2.2.1 = r3 at hc
        generalize (cutO (some (rowsA 200 l)) t key).2.2.2.1 = r4 at hc
        have HC := Lib.hid hc; clear hc ea
        have XA := Lib.hid xa; clear xa
        go_wp2_with fail
        refine HC.out.mono ?_
        rintro e w4 ⟨rfl, m4⟩
        obtain ⟨F4, o4, g4⟩ := Made.out m4
        have S4 := Lib.hid (S3.out.grow g4 o4)
        clear m4 o4 g4 HC
        go_wp2_with fail
        go_loop [39] (fun i => ∃ j : Nat, j ≤ l.length ∧ i = .int .i64 j) (fun i => l.length - (intOf i).toNat)
        case atStart => exact ⟨0, Nat.zero_le _, rfl⟩
        case round =>
          obtain ⟨j, hj, rfl⟩ := hrel
          by_cases hjl : j < l.length
          · obtain ⟨b, off, a, cc, rfl, hbl, d0, ha, hi⟩ := HL.out.row S4.out.below hjl
            have hval := fun (i : Nat) (hi : i < (l[j]).length) => rowsA_val XA.out hjl hi
            generalize l[j] = r at d0 ha hi hval
            have HV := Lib.hid hval; clear hval
            have hrl : r.length ≤ 9223372036854775807 := by have := ha.room; have := ha.most; unfold maxLen at this; omega
            have HI := Lib.hid hi; clear ha hi
            go_wp2_with fail
            go_loop [46] (fun i => ∃ n : Nat, n ≤ r.length ∧ i = .int .i64 n) (fun i => r.length - (intOf i).toNat)
            case atStart => exact ⟨0, Nat.zero_le _, rfl⟩
            case round =>
              obtain ⟨n, hn, rfl⟩ := hrel
              by_cases hnl : n < r.length
              · have hv := HV.out n hnl
                rcases HI.out with ⟨_, _, rfl⟩ | ⟨x, rfl, hx⟩
                · simp at hnl
                have e0 := hx n hnl
                have hcv := val_any S4.out.arena ((j : Int) + 1) (n : Int)
                rw [hv] at hcv
                generalize r[n] = y at e0 hcv
                have HCV := Lib.hid hcv; clear hcv hv hx
                have q1 : (y != y) = false := by simp
                go_wp2_with fail
                refine HCV.out.mono ?_
                rintro e w' ⟨rfl, rfl⟩
                go_wp2_with fail
                go_round
                case rel => exact ⟨n + 1, by omega, by go_num⟩
                case measure => simp [intOf]; omega
              · have hnr : n = r.length := by omega
                subst hnr
                go_wp2_with fail
                go_round
                case rel => exact ⟨j + 1, by omega, by go_num⟩
                case measure => simp [intOf]; omega
          · have hjr : j = l.length := by omega
            subst hjr
            go_wp2_with (go_at_call 26; refine (awake6_any W _ S4.out.below).mono ?_; rintro e wz ⟨rfl, bz⟩)
            go_ret
            exact ⟨rfl, bz⟩

end Go.Proofs.Ytakgknoldkfekaa
