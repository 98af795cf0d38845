/- The walk of the law ArenaOnce. -/
import Derived.Test.YtjfmhablfcpkmaaAwake2
namespace Go.Proofs.Ytjfmhablfcpkmaa
open Go.RowKit

def onA (now v s : Int) : Ar := ⟨5, [⟨0, [now]⟩, ⟨0, [v]⟩, ⟨1, [v]⟩], s⟩
def onNow : List Int → Int → Int
  | [], now => now
  | x :: r, now => onNow r (if now = 0 then x else now)
theorem onNow_snoc (x : Int) (l : List Int) : ∀ now, onNow (l ++ [x]) now = if onNow l now = 0 then x else onNow l now := by
  induction l with
  | nil => intro now; rfl
  | cons y r ih => intro now; exact ih _
theorem on_1 : cellO (some (newA 5)) 0 = (1, 0, some ⟨5, [⟨0, [0]⟩], 0⟩) := rfl
theorem on_2 (v : Int) : cellO (some ⟨5, [⟨0, [0]⟩], 0⟩) v = (2, 0, some ⟨5, [⟨0, [0]⟩, ⟨0, [v]⟩], 0⟩) := rfl
theorem on_3 (v : Int) : makeO (some ⟨5, [⟨0, [0]⟩, ⟨0, [v]⟩], 0⟩) 1 [v] = (3, 0, some (onA 0 v 0)) := rfl
theorem on_rec (now v s : Int) : isCell (some (onA now v s)) 3 = false := rfl
theorem on_once (now v s x : Int) : onceO (some (onA now v s)) 1 x = if now = 0 ∧ x ≠ 0 then (true, some (onA x v (wrap64 (s + 1)))) else (false, some (onA now v (wrap64 (s + 1)))) := by
  have h : isCell (some (onA now v s)) 1 = true := rfl
  have hv : holds (onA now v s) 1 = now := rfl
  simp only [onceO, h, hv, if_true]
  rfl
theorem on_other (now v s x : Int) (hv : v ≠ 0) : onceO (some (onA now v s)) 2 x = (false, some (onA now v (wrap64 (s + 1)))) := by
  have h : isCell (some (onA now v s)) 2 = true := rfl
  have hh : holds (onA now v s) 2 = v := rfl
  simp only [onceO, h, hh, if_true]
  rw [if_neg (fun h => hv h.1)]
  rfl
theorem on_load (now v s : Int) : loadO (some (onA now v s)) 1 = (now, some (onA now v (wrap64 (s + 1)))) := rfl

/-- A round's first call, whatever the cell holds: what it tells, and what the cell holds then. -/
theorem on_step (now v s x : Int) : ∃ b : Bool, ∃ now' : Int, onceO (some (onA now v s)) 1 x = (b, some (onA now' v (wrap64 (s + 1)))) ∧ now' = (if now = 0 then x else now) ∧ b = (decide (now = 0) && decide (x ≠ 0)) := by
  rw [on_once]
  by_cases h1 : now = 0
  · subst h1
    by_cases h2 : x = 0
    · subst h2
      exact ⟨false, 0, by simp, by simp, by simp⟩
    · exact ⟨true, x, by simp [h2], by simp, by simp [h2]⟩
  · exact ⟨false, now, by simp [h1], by simp [h1], by simp [h1]⟩

set_option maxHeartbeats 8000000 in
theorem once_walk (W : World) (v : Int) (_ : -9223372036854775808 ≤ v ∧ v ≤ 9223372036854775807) {ad : Option Addr} {c : Nat} {l : List Int} (hl : IntsArg W ad c l) :
    Calls Try.prog 17 #[.int .i64 v, .slice ad l.length c] W fun e w' => e = .returned (.bool true) ∧ Below W.heap.size W w' := by
  by_cases hlen : 40 < (l.length : Int)
  · go_enter Try.func17, Try.ntmps17
    go_wp2_with (go_at_call 36; refine (awake2_any W _ (Below.refl _ _)).mono ?_; rintro e w1 ⟨rfl, b1⟩)
    go_ret
    exact ⟨rfl, b1⟩
  · have HL := Lib.hid hl; clear hl
    go_enter Try.func17, Try.ntmps17
    go_wp2_with fail
    refine (new_any 5 W).mono ?_
    rintro e w1 ⟨rfl, o1, b1⟩
    have S1 := Lib.hid (St.begin (Below.refl _ _) o1 b1); clear o1 b1
    go_wp2_with fail
    have c2 := cellnew_any S1.out.arena 0
    rw [on_1] at c2
    refine c2.mono ?_
    rintro e w2 ⟨rfl, d2⟩
    obtain ⟨F2, s2, k2, z2⟩ := S1.out.made d2
    have S2 := Lib.hid s2; clear s2 c2 d2 k2 z2
    go_wp2_with fail
    have c3 := cellnew_any S2.out.arena v
    rw [on_2] at c3
    refine c3.mono ?_
    rintro e w3 ⟨rfl, d3⟩
    obtain ⟨F3, s3, k3, z3⟩ := S2.out.made d3
    have S3 := Lib.hid s3; clear s3 c3 d3 k3 z3
    go_wp2_with fail
    have c4 := make_any (S3.out.alloc (.cells #[.int .i64 v] 3)).arena 1 (ints_new (l := [v]) w3 w3.heap.size _ rfl rfl)
    rw [on_3] at c4
    refine c4.mono ?_
    rintro e w4 ⟨rfl, d4⟩
    obtain ⟨F4, s4, k4, z4⟩ := (S3.out.alloc (.cells #[.int .i64 v] 3)).made d4
    have S4 := Lib.hid s4; clear s4 c4 d4 k4 z4
    have r1 := once_any S4.out.arena 3 5
    rw [once_no (on_rec 0 v 0)] at r1
    have R1 := Lib.hid r1; clear r1
    go_wp2_with fail
    refine R1.out.mono ?_
    rintro e w5 ⟨rfl, d5⟩
    obtain ⟨F5, s5, k5, z5⟩ := S4.out.made d5
    have S5 := Lib.hid s5; clear s5 d5 k5 z5
    have r2 := swap_any S5.out.arena 3 0 5
    rw [swap_no (on_rec 0 v 0)] at r2
    have R2 := Lib.hid r2; clear r2
    go_wp2_with fail
    refine R2.out.mono ?_
    rintro e w6 ⟨rfl, d6⟩
    obtain ⟨F6, s6, k6, z6⟩ := S5.out.made d6
    have S6 := Lib.hid s6; clear s6 d6 k6 z6
    have r3 := load_any S6.out.arena 3
    rw [load_no (on_rec 0 v 0)] at r3
    have R3 := Lib.hid r3; clear r3
    go_wp2_with fail
    refine R3.out.mono ?_
    rintro e w7 ⟨rfl, d7⟩
    obtain ⟨F7, s7, k7, z7⟩ := S6.out.made d7
    have S7 := Lib.hid s7; clear s7 d7 k7 z7
    have r4 := steps_any S7.out.arena
    rw [show stepsO (some (onA 0 v 0)) = 0 from rfl] at r4
    have R4 := Lib.hid r4; clear r4
    go_wp2_with fail
    refine R4.out.mono ?_
    rintro e w8 ⟨rfl, rfl⟩
    go_wp2_with fail
    go_loopw [12, 71] (fun n i wr => ∃ k : Nat, k ≤ l.length ∧ i = .int .i64 k ∧ n = .int .i64 (onNow (l.take k) 0) ∧ ∃ F s, Hid (St W wr (some ⟨W.heap.size, 0, none⟩) (some (onA (onNow (l.take k) 0) v s)) F)) (fun _ i _ => l.length - (intOf i).toNat)
    case atStart => exact ⟨0, Nat.zero_le _, rfl, rfl, F7, 0, S7⟩
    case round =>
      obtain ⟨k, hk, rfl, rfl, F, s, HS⟩ := hrel
      by_cases hlt : k < l.length
      · obtain ⟨b, off, rfl, hcell⟩ := HL.out.cell HS.out.below hlt
        have hsn : onNow (l.take (k + 1)) 0 = if onNow (l.take k) 0 = 0 then l[k] else onNow (l.take k) 0 := by
          rw [List.take_succ_eq_append_getElem hlt, onNow_snoc]
        generalize hx : l[k] = x at hsn hcell
        generalize hn : onNow (l.take k) 0 = now at HS hsn
        obtain ⟨bb, now', e1, e2, e3⟩ := on_step now v s x
        rw [← e2] at hsn
        have HX := Lib.hid hx; clear hx
        have HN := Lib.hid hn; clear hn
        have HSN := Lib.hid hsn; clear hsn
        have c5 := once_any HS.out.arena 1 x
        rw [e1] at c5
        have C5 := Lib.hid c5; clear c5 e1
        have fin : ∀ (ww : World) (FF : Nat → Prop) (ss : Int), St W ww (some ⟨W.heap.size, 0, none⟩) (some (onA now' v ss)) FF → ∃ F s, Hid (St W ww (some ⟨W.heap.size, 0, none⟩) (some (onA (onNow (l.take (k + 1)) 0) v s)) F) := by
          intro ww FF ss h
          rw [HSN.out]
          exact ⟨FF, ss, h⟩
        have FIN := Lib.hid fin; clear fin
        by_cases h1 : now = 0
        · subst h1
          have e4 : now' = x := by rw [e2]; simp
          subst e4
          by_cases h2 : now' = 0
          · subst h2
            obtain rfl : bb = false := by rw [e3]; rfl
            clear e2 e3
            go_wp2_with fail
            refine C5.out.mono ?_
            rintro e w9 ⟨rfl, d9⟩
            obtain ⟨F9, s9, k9, z9⟩ := HS.out.made d9
            have S9 := Lib.hid s9; clear s9 d9 k9 z9
            by_cases hv : v = 0
            · subst hv
              go_wp2_with fail
              go_roundw
              case rel => exact ⟨k + 1, by omega, by go_num, by rw [HSN.out], FIN.out _ _ _ S9.out⟩
              case measure => simp [intOf]; omega
            · have c6 := once_any S9.out.arena 2 0
              rw [on_other _ _ _ _ hv] at c6
              have C6 := Lib.hid c6; clear c6
              have hv1 : (v == 0) = false := beq_eq_false_iff_ne.2 hv
              have hv2 : (v != 0) = true := by rw [bne, hv1]; rfl
              clear hv
              go_wp2_with fail
              refine C6.out.mono ?_
              rintro e w10 ⟨rfl, d10⟩
              obtain ⟨F10, s10, k10, z10⟩ := S9.out.made d10
              have S10 := Lib.hid s10; clear s10 d10 k10 z10
              go_wp2_with fail
              go_roundw
              case rel => exact ⟨k + 1, by omega, by go_num, by rw [HSN.out], FIN.out _ _ _ S10.out⟩
              case measure => simp [intOf]; omega
          · obtain rfl : bb = true := by rw [e3]; simp [h2]
            have q1 : (now' == 0) = false := beq_eq_false_iff_ne.2 h2
            have q2 : (now' != 0) = true := by rw [bne, q1]; rfl
            clear e2 e3 h2
            go_wp2_with fail
            refine C5.out.mono ?_
            rintro e w9 ⟨rfl, d9⟩
            obtain ⟨F9, s9, k9, z9⟩ := HS.out.made d9
            have S9 := Lib.hid s9; clear s9 d9 k9 z9
            by_cases hv : v = 0
            · subst hv
              go_wp2_with fail
              go_roundw
              case rel => exact ⟨k + 1, by omega, by go_num, by rw [HSN.out], FIN.out _ _ _ S9.out⟩
              case measure => simp [intOf]; omega
            · have c6 := once_any S9.out.arena 2 now'
              rw [on_other _ _ _ _ hv] at c6
              have C6 := Lib.hid c6; clear c6
              have hv1 : (v == 0) = false := beq_eq_false_iff_ne.2 hv
              have hv2 : (v != 0) = true := by rw [bne, hv1]; rfl
              clear hv
              go_wp2_with fail
              refine C6.out.mono ?_
              rintro e w10 ⟨rfl, d10⟩
              obtain ⟨F10, s10, k10, z10⟩ := S9.out.made d10
              have S10 := Lib.hid s10; clear s10 d10 k10 z10
              go_wp2_with fail
              go_roundw
              case rel => exact ⟨k + 1, by omega, by go_num, by rw [HSN.out], FIN.out _ _ _ S10.out⟩
              case measure => simp [intOf]; omega
        · have e4 : now' = now := by rw [e2, if_neg h1]
          subst e4
          obtain rfl : bb = false := by rw [e3]; simp [h1]
          have q1 : (now' == 0) = false := beq_eq_false_iff_ne.2 h1
          clear e2 e3 h1
          go_wp2_with fail
          refine C5.out.mono ?_
          rintro e w9 ⟨rfl, d9⟩
          obtain ⟨F9, s9, k9, z9⟩ := HS.out.made d9
          have S9 := Lib.hid s9; clear s9 d9 k9 z9
          by_cases hv : v = 0
          · subst hv
            go_wp2_with fail
            go_roundw
            case rel => exact ⟨k + 1, by omega, by go_num, by rw [HSN.out], FIN.out _ _ _ S9.out⟩
            case measure => simp [intOf]; omega
          · have c6 := once_any S9.out.arena 2 x
            rw [on_other _ _ _ _ hv] at c6
            have C6 := Lib.hid c6; clear c6
            have hv1 : (v == 0) = false := beq_eq_false_iff_ne.2 hv
            have hv2 : (v != 0) = true := by rw [bne, hv1]; rfl
            clear hv
            go_wp2_with fail
            refine C6.out.mono ?_
            rintro e w10 ⟨rfl, d10⟩
            obtain ⟨F10, s10, k10, z10⟩ := S9.out.made d10
            have S10 := Lib.hid s10; clear s10 d10 k10 z10
            go_wp2_with fail
            go_roundw
            case rel => exact ⟨k + 1, by omega, by go_num, by rw [HSN.out], FIN.out _ _ _ S10.out⟩
            case measure => simp [intOf]; omega
      · have hkl : k = l.length := by omega
        subst hkl
        generalize hn : onNow (l.take l.length) 0 = now at HS ⊢
        have HN := Lib.hid hn; clear hn
        have c5 := load_any HS.out.arena 1
        rw [on_load] at c5
        have C5 := Lib.hid c5; clear c5
        have q := beq_self_eq_true now
        have q' := beq_self_eq_true v
        go_wp2_with fail
        refine C5.out.mono ?_
        rintro e w9 ⟨rfl, d9⟩
        obtain ⟨F9, s9, k9, z9⟩ := HS.out.made d9
        have c6 := val_any s9.arena 3 0
        rw [show valO (some (onA now v (wrap64 (s + 1)))) 3 0 = v from rfl] at c6
        have c7 := val_any s9.arena 1 0
        rw [show valO (some (onA now v (wrap64 (s + 1)))) 1 0 = 0 from rfl] at c7
        have c8 := kind_any s9.arena 1
        rw [show kindO (some (onA now v (wrap64 (s + 1)))) 1 = 0 from rfl] at c8
        have C6 := Lib.hid c6; clear c6
        have C7 := Lib.hid c7; clear c7
        have C8 := Lib.hid c8; clear c8
        have S9 := Lib.hid s9; clear s9 d9 k9 z9
        go_wp2_with fail
        refine C6.out.mono ?_
        rintro e w10 ⟨rfl, rfl⟩
        go_wp2_with fail
        refine C7.out.mono ?_
        rintro e w10 ⟨rfl, rfl⟩
        go_wp2_with fail
        refine C8.out.mono ?_
        rintro e w10 ⟨rfl, rfl⟩
        go_wp2_with (go_at_call 36; refine (awake2_any W _ S9.out.below).mono ?_; rintro e w11 ⟨rfl, b11⟩)
        go_ret
        exact ⟨rfl, b11⟩

end Go.Proofs.Ytjfmhablfcpkmaa
